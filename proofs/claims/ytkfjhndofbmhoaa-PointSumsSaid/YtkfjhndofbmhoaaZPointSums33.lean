/- What the proof of PointSums is made of, part 33. -/
import Derived.Test.YtkfjhndofbmhoaaZPointSums32
import Derived.Test.YtkfjhndofbmhoaaZPointSums0
import Derived.Test.YtkfjhndofbmhoaaZPointSums31
import Derived.Test.YtkfjhndofbmhoaaZPointSums1
import Derived.Test.YtkfjhndofbmhoaaZPointSums2
import Derived.Test.YtkfjhndofbmhoaaZPointSums9
import Derived.Test.YtkfjhndofbmhoaaZPointSums16
import Derived.Test.YtkfjhndofbmhoaaZPointSumsh
namespace Go.Proofs.Ytkfjhndofbmhoaa
open Go.RowKit Go.Proofs.Ytkfjhndofbmhoaa.Arr Go.Proofs.YtkfjhndofbmhoaaW.PrintWords Go.Proofs.YtkfjhndofbmhoaaW.PrintLast Go.Proofs.YtkfjhndofbmhoaaW.PrintMore
attribute [local go_sem high] eqg_num eqg_num0
set_option linter.unusedVariables false
set_option linter.unusedSimpArgs false
def gZ : Nat := msp 0 gY
theorem gX_N : gX < N256 := lt_N gX_lt
theorem gY_N : gY < N256 := lt_N gY_lt
theorem gZ_N : gZ < N256 := lt_N (mod_p _)
theorem on_g : onB gX gY false = true := by decide +kernel
theorem on_gz : onB gX gZ false = true := by decide +kernel
theorem on_0 : onB 0 0 false = false := by decide +kernel
theorem on_base (w : World) : Calls Try.prog 10 #[ptV gX gY false] w fun e w' => e = .returned (.bool true) ∧ Below w.heap.size w w' := by
 have h := pOn_calls gX_N gY_N false w
 rw [on_g] at h
 exact h
theorem on_zero (w : World) : Calls Try.prog 10 #[ptV 0 0 false] w fun e w' => e = .returned (.bool false) ∧ Below w.heap.size w w' := by
 have h := pOn_calls N256_pos N256_pos false w
 rw [on_0] at h
 exact h
theorem neg_base (w : World) : Calls Try.prog 12 #[ptV gX gY false] w fun e w' => e = .returned (.tuple #[ptV gX gZ false, .nilIface]) ∧ Below w.heap.size w w' := by
 have h := pNeg_calls false gX_N gY_N w
 have e : ngV gX gY false = .tuple #[ptV gX gZ false, .nilIface] := by
  unfold ngV
  rw [on_g]
  rfl
 rw [e] at h
 exact h
theorem flJ_far (x y : Nat) : flJ x y 0 = ptV 0 0 true := by
 have h : invO pP 0 = none := by
  cases h : invO pP 0 with
  | none => rfl
  | some v =>
   have := (invO_spec h).2
   rw [Nat.zero_mul, Nat.zero_mod] at this
   cases this
 unfold flJ
 rw [h]
theorem sum_base : suJ gX gY 1 gX gZ 1 = (0, 0, 0) := by decide +kernel
theorem add_base (w : World) : Calls Try.prog 11 #[ptV gX gY false, ptV gX gZ false] w fun e w' => e = .returned (.tuple #[ptV 0 0 true, .nilIface]) ∧ Below w.heap.size w w' := by
 have h := pAdd_calls (f1 := false) (f2 := false) gX_N gY_N gX_N gZ_N w
 have ea : adV gX gY false gX gZ false = ptV 0 0 true := by
  have e1 : adV gX gY false gX gZ false = flJ (suJ gX gY 1 gX gZ 1).1 (suJ gX gY 1 gX gZ 1).2.1 (suJ gX gY 1 gX gZ 1).2.2 := rfl
  rw [e1, sum_base]
  exact flJ_far 0 0
 have e : apV gX gY false gX gZ false = .tuple #[ptV 0 0 true, .nilIface] := by
  unfold apV
  rw [on_g, on_gz, ea]
  rfl
 rw [e] at h
 exact h
set_option maxRecDepth 100000 in
set_option maxHeartbeats 8000000 in
theorem up_calls (w : World) :
  Calls Try.prog 9 #[] w fun e w' => e = .returned (.bool true) ∧ Below w.heap.size w w' := by
 have hq : ∀ w, (binOp .eql 26 (ptV 0 0 true) (.agg #[.int .u64 0, .int .u64 0, .int .u64 0, .int .u64 0, .int .u64 0, .int .u64 0, .int .u64 0, .int .u64 0, .bool true])).run Try.prog w = .ok (.bool true) w := fun w =>
  eql_pt (x := 0) (y := 0) (x' := 0) (y' := 0) N256_pos N256_pos N256_pos N256_pos true true w
 have hg : ∀ w x_ y_, (eqGuard .eql 26 x_ y_ (ptV 0 0 true) (.agg #[.int .u64 0, .int .u64 0, .int .u64 0, .int .u64 0, .int .u64 0, .int .u64 0, .int .u64 0, .int .u64 0, .bool true])).run Try.prog w = .ok () w := fun w x_ y_ => eqg_pt .eql x_ y_ 0 0 0 0 true true w
 have K1 := Aside0.mk (fun (u : World) => pbase_calls u)
 have K2 := Aside0.mk (fun (u : World) => neg_base u)
 have K3 := Aside0.mk (fun (u : World) => add_base u)
 have K4 := Aside0.mk (fun (u : World) => on_base u)
 have K5 := Aside0.mk (fun (u : World) => on_zero u)
 go_enter Try.func9, Try.ntmps9
 go_upto_region 1 with (fail)
 have HB : Aside0 (Below w.heap.size w w) := Aside0.mk (Below.refl _ _)
 have HS : Aside0 (w.heap.size ≤ w.heap.size) := Aside0.mk (Nat.le_refl _)
 go_upto_region 2 with (first | ((with_reducible refine gate_dst (N := 6) rfl ?_); refine goesL_ (some 6) rfl rfl Try.func18 (by kernel_rfl) rfl #[] rfl (by (try simp only [List.map_toArray, List.map_cons, List.map_nil]); first | done | rfl) ?_; (with_reducible refine (K1.out _).mono ?_); rintro e u1 ⟨rfl, hb_⟩; refine ⟨_, rfl, ?_⟩; replace HB := Aside0.mk (bl_on HB.out hb_ HB.out.size); replace HS := Aside0.mk (Nat.le_trans HS.out hb_.size); clear hb_) | ((with_reducible refine gate_dst (N := 1) rfl ?_); refine al_pt rfl _ rfl rfl ?_; intro g1 u2 eg_ hn_ hb_; have HXg1 : Aside0 (w.heap.size ≤ g1) := Aside0.mk (by rw [eg_]; exact HS.out); replace HB := Aside0.mk (bl_on HB.out hb_ HB.out.size); replace HS := Aside0.mk (Nat.le_trans HS.out hb_.size); have Hg1 := Aside0.mk hn_; clear hn_ hb_ eg_) | ((with_reducible refine gate_st (y := .tmp 6) rfl ?_); (try simp only [aS]); refine st_pt (x := gX) (y := gY) (f := false) Hg1.out rfl _ _ rfl rfl rfl ?_; intro u3 hn_ hb_; replace Hg1 := Aside0.mk hn_; replace HB := Aside0.mk (bl_but HB.out hb_ HB.out.size (by have := HXg1.out; omega)); replace HS := Aside0.mk (Nat.le_trans HS.out hb_.size); clear hn_ hb_))
 go_upto_region 3 with (first | ((with_reducible refine gate_dst (N := 8) rfl ?_); refine ld_pt Hg1.out rfl _ rfl rfl ?_) | ((with_reducible refine gate_dst (N := 9) rfl ?_); refine goesL_ (some 9) rfl rfl Try.func12 (by kernel_rfl) rfl #[ptV gX gY false] rfl (by (try simp only [List.map_toArray, List.map_cons, List.map_nil]); first | done | rfl) ?_; (with_reducible refine (K2.out _).mono ?_); rintro e u4 ⟨rfl, hb_⟩; refine ⟨_, rfl, ?_⟩; replace Hg1 := Aside0.mk (Hg1.out.on hb_); replace HB := Aside0.mk (bl_on HB.out hb_ HB.out.size); replace HS := Aside0.mk (Nat.le_trans HS.out hb_.size); clear hb_) | ((with_reducible refine gate_dst (N := 2) rfl ?_); refine al_pt rfl _ rfl rfl ?_; intro g2 u5 eg_ hn_ hb_; have HXg2 : Aside0 (w.heap.size ≤ g2 ∧ g1 < g2) := Aside0.mk (by rw [eg_]; exact ⟨HS.out, Hg1.out.size⟩); replace Hg1 := Aside0.mk (Hg1.out.on hb_); replace HB := Aside0.mk (bl_on HB.out hb_ HB.out.size); replace HS := Aside0.mk (Nat.le_trans HS.out hb_.size); have Hg2 := Aside0.mk hn_; clear hn_ hb_ eg_) | ((with_reducible refine gate_st (y := .tmp 10) rfl ?_); (try simp only [aS]); refine st_pt (x := gX) (y := gZ) (f := false) Hg2.out rfl _ _ rfl rfl rfl ?_; intro u6 hn_ hb_; replace Hg1 := Aside0.mk (Hg1.out.but hb_ (by have := HXg1.out; have := HXg2.out; omega)); replace Hg2 := Aside0.mk hn_; replace HB := Aside0.mk (bl_but HB.out hb_ HB.out.size (by have := HXg1.out; have := HXg2.out; omega)); replace HS := Aside0.mk (Nat.le_trans HS.out hb_.size); clear hn_ hb_))
 go_upto_region 4 with (first | ((with_reducible refine gate_dst (N := 13) rfl ?_); refine ld_pt Hg1.out rfl _ rfl rfl ?_) | ((with_reducible refine gate_dst (N := 14) rfl ?_); refine ld_pt Hg2.out rfl _ rfl rfl ?_) | ((with_reducible refine gate_dst (N := 15) rfl ?_); refine goesL_ (some 15) rfl rfl Try.func11 (by kernel_rfl) rfl #[ptV gX gY false, ptV gX gZ false] rfl (by (try simp only [List.map_toArray, List.map_cons, List.map_nil]); first | done | rfl) ?_; (with_reducible refine (K3.out _).mono ?_); rintro e u7 ⟨rfl, hb_⟩; refine ⟨_, rfl, ?_⟩; replace Hg1 := Aside0.mk (Hg1.out.on hb_); replace Hg2 := Aside0.mk (Hg2.out.on hb_); replace HB := Aside0.mk (bl_on HB.out hb_ HB.out.size); replace HS := Aside0.mk (Nat.le_trans HS.out hb_.size); clear hb_) | ((with_reducible refine gate_dst (N := 4) rfl ?_); refine al_pt rfl _ rfl rfl ?_; intro g4 u8 eg_ hn_ hb_; have HXg4 : Aside0 (w.heap.size ≤ g4 ∧ g1 < g4 ∧ g2 < g4) := Aside0.mk (by rw [eg_]; exact ⟨HS.out, Hg1.out.size, Hg2.out.size⟩); replace Hg1 := Aside0.mk (Hg1.out.on hb_); replace Hg2 := Aside0.mk (Hg2.out.on hb_); replace HB := Aside0.mk (bl_on HB.out hb_ HB.out.size); replace HS := Aside0.mk (Nat.le_trans HS.out hb_.size); have Hg4 := Aside0.mk hn_; clear hn_ hb_ eg_) | ((with_reducible refine gate_st (y := .tmp 16) rfl ?_); (try simp only [aS]); refine st_pt (x := 0) (y := 0) (f := true) Hg4.out rfl _ _ rfl rfl rfl ?_; intro u9 hn_ hb_; replace Hg1 := Aside0.mk (Hg1.out.but hb_ (by have := HXg1.out; have := HXg2.out; have := HXg4.out; omega)); replace Hg2 := Aside0.mk (Hg2.out.but hb_ (by have := HXg1.out; have := HXg2.out; have := HXg4.out; omega)); replace Hg4 := Aside0.mk hn_; replace HB := Aside0.mk (bl_but HB.out hb_ HB.out.size (by have := HXg1.out; have := HXg2.out; have := HXg4.out; omega)); replace HS := Aside0.mk (Nat.le_trans HS.out hb_.size); clear hn_ hb_))
 go_wp2_with (first | ((with_reducible refine gate_dst (N := 18) rfl ?_); refine ld_pt Hg1.out rfl _ rfl rfl ?_) | ((with_reducible refine gate_dst (N := 19) rfl ?_); refine goesL_ (some 19) rfl rfl Try.func10 (by kernel_rfl) rfl #[ptV gX gY false] rfl (by (try simp only [List.map_toArray, List.map_cons, List.map_nil]); first | done | rfl) ?_; (with_reducible refine (K4.out _).mono ?_); rintro e u10 ⟨rfl, hb_⟩; refine ⟨_, rfl, ?_⟩; replace Hg1 := Aside0.mk (Hg1.out.on hb_); replace Hg2 := Aside0.mk (Hg2.out.on hb_); replace Hg4 := Aside0.mk (Hg4.out.on hb_); replace HB := Aside0.mk (bl_on HB.out hb_ HB.out.size); replace HS := Aside0.mk (Nat.le_trans HS.out hb_.size); clear hb_) | ((with_reducible refine gate_dst (N := 22) rfl ?_); refine wpList_step (fun K_ hK_ => ?_); refine goes_ Try.func10 (by kernel_rfl) rfl #[ptV 0 0 false] (by rfl) rfl rfl (by (try simp only [List.map_toArray, List.map_cons, List.map_nil]); first | done | rfl) ?_; (with_reducible refine (K5.out _).mono ?_); rintro e u11 ⟨rfl, hb_⟩; refine ⟨_, rfl, ?_⟩; refine hK_ _ _ ?_; clear hK_ K_; replace Hg1 := Aside0.mk (Hg1.out.on hb_); replace Hg2 := Aside0.mk (Hg2.out.on hb_); replace Hg4 := Aside0.mk (Hg4.out.on hb_); replace HB := Aside0.mk (bl_on HB.out hb_ HB.out.size); replace HS := Aside0.mk (Nat.le_trans HS.out hb_.size); clear hb_) | ((with_reducible refine gate_dst (N := 34) rfl ?_); refine ld_ptG Hg4.out (by rfl) _ rfl rfl ?_))
 go_ret
 exact ⟨rfl, HB.out⟩
end Go.Proofs.Ytkfjhndofbmhoaa
namespace Go.Proofs.Ytkfjhndofbmhoaa.EC
open Go.RowKit Pt
set_option linter.unusedVariables false
set_option linter.unusedSimpArgs false
theorem fd_of {p : Nat} [NeZero p] (hp : Pr.Prime p) : Fd p := ⟨fun x hx => by
 have h0 : x.val ≠ 0 := fun e => hx (Fin.ext (by rw [e]; rfl))
 obtain ⟨a, ha, h⟩ := Pr.inv_ex hp (Nat.pos_of_ne_zero h0) x.isLt
 refine ⟨ph p a, Fin.ext ?_⟩
 have h1 : (1 : Fin p).val = 1 % p := rfl
 rw [h1, Nat.mod_eq_of_lt hp.1, Fin.val_mul, ph_lt ha]
 exact h⟩
instance : NeZero pP := ⟨Nat.pos_iff_ne_zero.1 pP_pos⟩
theorem pr_p : Pr.Prime pP := Pr.pr_qP
instance : Nonempty (Fd pP) := ⟨fd_of pr_p⟩
/-- a number, as an element of the field -/
def fi (a : Nat) : Fin pP := ph pP a
def cb : Fin pP := fi cB
theorem fi_mul (a b : Nat) : fi (mmp a b) = fi a * fi b := ph_mul a b
theorem fi_add (a b : Nat) : fi (adp a b) = fi a + fi b := ph_add a b
theorem fi_sub {a b : Nat} (hb : b < pP) : fi (msp a b) = fi a - fi b := ph_sub (Nat.le_of_lt hb)
theorem fi_inj {a b : Nat} (ha : a < pP) (hb : b < pP) (h : fi a = fi b) : a = b := ph_inj ha hb h
theorem fi_val {a : Nat} (ha : a < pP) : (fi a).val = a := ph_lt ha
theorem fi_of (x : Fin pP) : fi x.val = x := ph_of x
theorem fi_zero : fi 0 = 0 := ph0
theorem fi_ne {a : Nat} (ha : a < pP) (h : a ≠ 0) : fi a ≠ 0 := ph_ne ha h
theorem fi_lit2 : fi 2 = 2 := rfl
theorem fi_lit3 : fi 3 = 3 := rfl
theorem fi_lit4 : fi 4 = 4 := rfl
theorem fi_lit8 : fi 8 = 8 := rfl
theorem fi_one : fi 1 = 1 := rfl
theorem ok_cb : Ok cb := ⟨by decide +kernel, by decide +kernel, by decide +kernel⟩
theorem one_p : (1 : Fin pP) ≠ 0 := by decide +kernel
/-- a point, as the curve's -/
def P2 (x y : Nat) (f : Bool) : Pt pP := if f then far else Pt.affp (fi x) (fi y)
/-- the curve's point, as a value -/
def nx : Pt pP → Nat | far => 0 | Pt.affp x _ => x.val
def ny : Pt pP → Nat | far => 0 | Pt.affp _ y => y.val
def nf : Pt pP → Bool | far => true | Pt.affp _ _ => false
def vP (P : Pt pP) : Value := ptV (nx P) (ny P) (nf P)
theorem nx_lt (P : Pt pP) : nx P < pP := by
 cases P with
 | far => exact pP_pos
 | affp x y => exact x.isLt
theorem ny_lt (P : Pt pP) : ny P < pP := by
 cases P with
 | far => exact pP_pos
 | affp x y => exact y.isLt
theorem P2_n (P : Pt pP) : P2 (nx P) (ny P) (nf P) = P := by
 cases P with
 | far => rfl
 | affp x y => exact congr (congrArg Pt.affp (fi_of x)) (fi_of y)
theorem on_eq (x y : Nat) (h : mmp y y = adp (msp (mmp (mmp x x) x) (mmp x 3)) cB) : fi y * fi y = fi x * fi x * fi x - 3 * fi x + cb := by
 have h2 := congrArg fi h
 rw [fi_mul, fi_add, fi_sub (mmp_lt _ _), fi_mul, fi_mul, fi_mul, fi_lit3] at h2
 rw [h2, Fin.mul_comm (fi x) 3]
 rfl
theorem on_spec {x y : Nat} {f : Bool} (h : onB x y f = true) : On cb (P2 x y f) := by
 cases f with
 | true => trivial
 | false =>
  unfold onB at h
  rw [if_neg (by decide)] at h
  exact on_eq x y (of_decide_eq_true h).2.2
theorem on_back {P : Pt pP} (h : On cb P) : onB (nx P) (ny P) (nf P) = true := by
 cases P with
 | far =>
  show onB 0 0 true = true
  decide +kernel
 | affp x y =>
  show onB x.val y.val false = true
  unfold onB
  rw [if_neg (by decide)]
  refine decide_eq_true ⟨x.isLt, y.isLt, fi_inj (mmp_lt _ _) (adp_lt _ _) ?_⟩
  rw [fi_mul, fi_add, fi_sub (mmp_lt _ _), fi_mul, fi_mul, fi_mul, fi_lit3, fi_of, fi_of, Fin.mul_comm x 3]
  exact h
/-- a point on the curve is written in one way -/
theorem on_form {x y : Nat} {f : Bool} (h : onB x y f = true) : x = nx (P2 x y f) ∧ y = ny (P2 x y f) ∧ f = nf (P2 x y f) := by
 cases f with
 | true =>
  unfold onB at h
  rw [if_pos rfl] at h
  obtain ⟨rfl, rfl⟩ := of_decide_eq_true h
  exact ⟨rfl, rfl, rfl⟩
 | false =>
  obtain ⟨hx, hy⟩ := onB_lt h
  exact ⟨(fi_val hx).symm, (fi_val hy).symm, rfl⟩
def fT (t : T3) : Fin pP × Fin pP × Fin pP := (fi t.1, fi t.2.1, fi t.2.2)
theorem twJ_eq (x y z : Nat) : fT (twJ x y z) = twF (fi x, fi y, fi z) := by
 have lt1 : ∀ a b, mmp a b < pP := mmp_lt
 have lt2 : ∀ a b, msp a b < pP := msp_lt
 unfold twJ fT twF
 dsimp only
 rw [fi_sub (lt1 _ _), fi_sub (lt1 _ _), fi_sub (lt1 _ _), fi_sub (lt1 _ _)]
 simp only [fi_mul, fi_add, fi_sub (lt1 _ _), fi_sub (lt2 _ _), fi_lit3, fi_lit4, fi_lit8]
theorem suJ_eq {x1 y1 z1 x2 y2 z2 : Nat} (b1 : z1 < pP) (b2 : z2 < pP) : fT (suJ x1 y1 z1 x2 y2 z2) = suF (fi x1, fi y1, fi z1) (fi x2, fi y2, fi z2) := by
 have lt1 : ∀ a b, mmp a b < pP := mmp_lt
 have lt2 : ∀ a b, msp a b < pP := msp_lt
 unfold suJ suF
 by_cases h1 : z1 = 0
 ·rw [if_pos h1, if_pos (show fi z1 = 0 by rw [h1]; exact fi_zero)]
  rfl
 rw [if_neg h1, if_neg (show ¬ fi z1 = 0 from fi_ne b1 h1)]
 by_cases h2 : z2 = 0
 ·rw [if_pos h2, if_pos (show fi z2 = 0 by rw [h2]; exact fi_zero)]
  rfl
 rw [if_neg h2, if_neg (show ¬ fi z2 = 0 from fi_ne b2 h2)]
 dsimp only
 have eh : fi (msp (mmp x2 (mmp z1 z1)) (mmp x1 (mmp z2 z2))) = fi x2 * (fi z1 * fi z1) - fi x1 * (fi z2 * fi z2) := by simp only [fi_sub (lt1 _ _), fi_mul]
 have er : fi (msp (mmp y2 (mmp (mmp z1 z1) z1)) (mmp y1 (mmp (mmp z2 z2) z2))) = fi y2 * (fi z1 * fi z1 * fi z1) - fi y1 * (fi z2 * fi z2 * fi z2) := by simp only [fi_sub (lt1 _ _), fi_mul]
 have lh := lt2 (mmp x2 (mmp z1 z1)) (mmp x1 (mmp z2 z2))
 have lr := lt2 (mmp y2 (mmp (mmp z1 z1) z1)) (mmp y1 (mmp (mmp z2 z2) z2))
 rw [← eh, ← er]
 generalize msp (mmp x2 (mmp z1 z1)) (mmp x1 (mmp z2 z2)) = h at *
 generalize msp (mmp y2 (mmp (mmp z1 z1) z1)) (mmp y1 (mmp (mmp z2 z2) z2)) = r at *
 by_cases h3 : h = 0
 ·rw [if_pos h3, if_pos (show fi h = 0 by rw [h3]; exact fi_zero)]
  by_cases h4 : r = 0
  ·rw [if_pos h4, if_pos (show fi r = 0 by rw [h4]; exact fi_zero)]
   exact twJ_eq x1 y1 z1
  ·rw [if_neg h4, if_neg (show ¬ fi r = 0 from fi_ne lr h4)]
   exact congr (congrArg Prod.mk fi_zero) (congr (congrArg Prod.mk fi_zero) fi_zero)
 ·rw [if_neg h3, if_neg (show ¬ fi h = 0 from fi_ne lh h3)]
  unfold fT
  dsimp only
  simp only [fi_mul, fi_add, fi_sub (lt1 _ _), fi_sub (lt2 _ _), fi_lit2]
theorem flJ_eq {x y z : Nat} (b3 : z < pP) : flJ x y z = vP (tp (fi x, fi y, fi z)) := by
 by_cases hz : z = 0
 ·subst hz
  rw [flJ_far, fi_zero, tp_far]
  rfl
 ·obtain ⟨v, hv, h1⟩ := Pr.inv_ex pr_p (Nat.pos_of_ne_zero hz) b3
  have e : invO pP z = some v := invO_some ⟨hv, h1⟩
  have h2 : fi z * fi v = 1 := by
   rw [← fi_mul, show mmp z v = 1 from h1]
   rfl
  have h3 := ivm (fi_ne b3 hz)
  have h4 : iv (fi z) = fi v := by grobner
  unfold flJ
  rw [e]
  unfold tp
  rw [if_neg (fi_ne b3 hz)]
  dsimp only
  rw [h4]
  unfold vP nx ny nf
  dsimp only
  rw [← fi_mul, ← fi_mul, ← fi_mul, ← fi_mul, fi_val (mmp_lt _ _), fi_val (mmp_lt _ _)]
theorem li_eq (x y : Nat) (f : Bool) : tp (fT (liJ x y f)) = P2 x y f := by
 cases f with
 | true =>
  show tp (fi 0, fi 0, fi 0) = far
  rw [fi_zero, tp_far]
 | false =>
  show tp (fi x, fi y, fi 1) = Pt.affp (fi x) (fi y)
  rw [fi_one, tp_one one_p]
theorem adV_eq {x1 y1 x2 y2 : Nat} {f1 f2 : Bool} (o1 : onB x1 y1 f1 = true) (o2 : onB x2 y2 f2 = true) : adV x1 y1 f1 x2 y2 f2 = vP (add (P2 x1 y1 f1) (P2 x2 y2 f2)) := by
 obtain ⟨bx1, by1⟩ := onB_lt o1
 obtain ⟨bx2, by2⟩ := onB_lt o2
 have la := liJ_lt bx1 by1 f1
 have lc := liJ_lt bx2 by2 f2
 have ea := li_eq x1 y1 f1
 have ec := li_eq x2 y2 f2
 have oa := on_spec o1
 have oc := on_spec o2
 rw [← ea] at oa ⊢
 rw [← ec] at oc ⊢
 unfold adV
 generalize liJ x1 y1 f1 = a at *
 generalize liJ x2 y2 f2 = c at *
 dsimp only
 have ls := suJ_lt la.1 la.2.1 la.2.2 lc.1 lc.2.1 lc.2.2
 have es := suJ_eq (x1 := a.1) (y1 := a.2.1) (x2 := c.1) (y2 := c.2.1) la.2.2 lc.2.2
 generalize suJ a.1 a.2.1 a.2.2 c.1 c.2.1 c.2.2 = s at *
 rw [flJ_eq ls.2.2, ← suF_spec ok_cb.h2 oa oc]
 exact congrArg (fun t => vP (tp t)) es
theorem vN (P : Pt pP) : nx P < N256 ∧ ny P < N256 := ⟨lt_N (nx_lt P), lt_N (ny_lt P)⟩
theorem gAdd {P Q : Pt pP} (h1 : On cb P) (h2 : On cb Q) (w : World) : Calls Try.prog 11 #[vP P, vP Q] w fun e w' => e = .returned (.tuple #[vP (add P Q), .nilIface]) ∧ Below w.heap.size w w' := by
 have h := pAdd_calls (f1 := nf P) (f2 := nf Q) (vN P).1 (vN P).2 (vN Q).1 (vN Q).2 w
 have e : apV (nx P) (ny P) (nf P) (nx Q) (ny Q) (nf Q) = .tuple #[vP (add P Q), .nilIface] := by
  unfold apV
  rw [on_back h1, on_back h2, adV_eq (on_back h1) (on_back h2), P2_n, P2_n]
  rfl
 rw [e] at h
 exact h
theorem gNeg {P : Pt pP} (h1 : On cb P) (w : World) : Calls Try.prog 12 #[vP P] w fun e w' => e = .returned (.tuple #[vP (neg P), .nilIface]) ∧ Below w.heap.size w w' := by
 have h := pNeg_calls (nf P) (vN P).1 (vN P).2 w
 have e : ngV (nx P) (ny P) (nf P) = .tuple #[vP (neg P), .nilIface] := by
  unfold ngV
  rw [on_back h1]
  cases P with
  | far =>
   have e0 : msp 0 0 = 0 := by decide +kernel
   show Value.tuple #[ptV 0 (msp 0 0) true, .nilIface] = _
   rw [e0]
   rfl
  | affp x y =>
   show Value.tuple #[ptV x.val (msp 0 y.val) false, .nilIface] = .tuple #[ptV x.val (-y).val false, .nilIface]
   have e0 : msp 0 y.val = (-y).val := by
    rw [← fi_val (msp_lt 0 y.val), fi_sub y.isLt, fi_zero, fi_of]
    exact congrArg Fin.val (by grobner)
   rw [e0]
 rw [e] at h
 exact h
theorem vP_form (P : Pt pP) : ∃ x y f, vP P = ptV x y f ∧ x < N256 ∧ y < N256 := ⟨_, _, _, rfl, vN P⟩
theorem on_vP {x y : Nat} {f : Bool} (h : onB x y f = true) : ptV x y f = vP (P2 x y f) := by
 obtain ⟨h1, h2, h3⟩ := on_form h
 unfold vP
 rw [← h1, ← h2, ← h3]
end Go.Proofs.Ytkfjhndofbmhoaa.EC
namespace Go.Proofs.Ytkfjhndofbmhoaa.EC
open Go.RowKit Pt
set_option linter.unusedVariables false
set_option linter.unusedSimpArgs false
/-- polynomials modulo the curve's cubic -/
def m3 (a c : T3) : T3 :=
 ((a.1 * c.1 + (pP - cB) * (a.2.1 * c.2.2 + a.2.2 * c.2.1)) % pP, (a.1 * c.2.1 + a.2.1 * c.1 + 3 * (a.2.1 * c.2.2 + a.2.2 * c.2.1) + (pP - cB) * (a.2.2 * c.2.2)) % pP, (a.1 * c.2.2 + a.2.1 * c.2.1 + a.2.2 * c.1 + 3 * (a.2.2 * c.2.2)) % pP)
def ev (r : Fin pP) (a : T3) : Fin pP := fi a.1 + fi a.2.1 * r + fi a.2.2 * (r * r)
end Go.Proofs.Ytkfjhndofbmhoaa.EC
namespace Go.Proofs.Ytkfjhndofbmhoaa
open EC Go.RowKit Go.Proofs.Ytkfjhndofbmhoaa.Arr Go.Proofs.YtkfjhndofbmhoaaW.PrintWords Go.Proofs.YtkfjhndofbmhoaaW.PrintLast Go.Proofs.YtkfjhndofbmhoaaW.PrintMore
attribute [local go_sem high] eqg_num eqg_num0 eqg_pt
set_option linter.unusedVariables false
set_option linter.unusedSimpArgs false
theorem inv_same {p : Nat} [NeZero p] {y u z : Fin p} (h3 : y * u = 1) (h2 : y * z = 1) : z = u := by grobner
theorem zero_sub_ring {p : Nat} [NeZero p] (y : Fin p) : 0 - y = -y := by grobner
theorem opp_ring {p : Nat} [NeZero p] {b : Fin p} (h : b + b = 0) : b = -b := by grobner
theorem sq_ring {p : Nat} [NeZero p] {b d t : Fin p} (h1 : b * b = t) (h2 : d * d = t) : (b - d) * (b + d) = 0 := by grobner
theorem sub_eq_ring {p : Nat} [NeZero p] {b d : Fin p} (h : b - d = 0) : b = d := by grobner
theorem add_eq_ring {p : Nat} [NeZero p] {b d : Fin p} (h : b + d = 0) : b = -d := by grobner
theorem vP_pt {X Y : Nat} (hX : X < pP) (hY : Y < pP) {x y : Fin pP} (e1 : fi X = x) (e2 : fi Y = y) : ptV X Y false = vP (Pt.affp x y) := by
 subst e1
 subst e2
 show _ = ptV (fi X).val (fi Y).val false
 rw [fi_val hX, fi_val hY]
theorem fi_rlX {l x1 x2 : Nat} (h1 : x1 < pP) (h2 : x2 < pP) : fi (rlX l x1 x2) = fi l * fi l - fi x1 - fi x2 := by
 unfold rlX
 rw [fi_sub h2, fi_sub h1, fi_mul]
theorem fi_rlY {l x1 y1 x : Nat} (h1 : y1 < pP) (h2 : x < pP) : fi (rlY l x1 y1 x) = fi l * (fi x1 - fi x) - fi y1 := by
 unfold rlY
 rw [fi_sub h1, fi_mul, fi_sub h2]
theorem rl_pt {l x1 y1 x2 : Nat} (b1 : x1 < pP) (b2 : y1 < pP) (b3 : x2 < pP) : ptV (rlX l x1 x2) (rlY l x1 y1 (rlX l x1 x2)) false = vP (Pt.affp (fi l * fi l - fi x1 - fi x2) (fi l * (fi x1 - (fi l * fi l - fi x1 - fi x2)) - fi y1)) := by
 have lx : rlX l x1 x2 < pP := msp_lt _ _
 have ly : rlY l x1 y1 (rlX l x1 x2) < pP := msp_lt _ _
 refine vP_pt lx ly (fi_rlX b1 b3) ?_
 rw [fi_rlY b2 lx, fi_rlX b1 b3]
theorem inv_fi {a : Nat} (ha : a < pP) (h0 : fi a ≠ 0) : ∃ v, invO pP a = some v ∧ fi v = iv (fi a) := by
 have hz : a ≠ 0 := fun e => h0 (by rw [e]; exact fi_zero)
 obtain ⟨v, hv, h1⟩ := Pr.inv_ex pr_p (Nat.pos_of_ne_zero hz) ha
 refine ⟨v, invO_some ⟨hv, h1⟩, ?_⟩
 have h2 : fi a * fi v = 1 := by
  rw [← fi_mul, show mmp a v = 1 from h1]
  rfl
 have h3 := ivm h0
 generalize iv (fi a) = u at *
 generalize fi v = z at *
 generalize fi a = y at *
 exact inv_same h3 h2
theorem rgAdd {P Q : Pt pP} (hP : On cb P) (hQ : On cb Q) (w : World) : Calls Try.prog 21 #[vP P, vP Q] w fun e w' => e = .returned (vP (add P Q)) ∧ Below w.heap.size w w' := by
 cases P with
 | far =>
  rw [far_add]
  exact radd_far1 0 0 (EC.nx Q) (EC.ny Q) (EC.nf Q) w
 | affp a b =>
  cases Q with
  | far =>
   rw [add_far]
   exact radd_far2 a.val b.val 0 0 w
  | affp c d =>
   have hneg : (-d).val = (0 + pP - d.val) % pP := by
    have e0 : fi (msp 0 d.val) = -d := by
     rw [fi_sub d.isLt, fi_zero, fi_of]
     exact zero_sub_ring d
    rw [← e0]
    exact fi_val (msp_lt 0 d.val)
   by_cases hopp : a = c ∧ b = -d
   ·rw [add_opp hopp]
    exact radd_opp a.isLt b.isLt c.isLt d.isLt ⟨congrArg Fin.val hopp.1, (congrArg Fin.val hopp.2).trans hneg⟩ w
   ·have hopp2 : ¬(a.val = c.val ∧ b.val = (0 + pP - d.val) % pP) := fun h => hopp ⟨Fin.ext h.1, Fin.ext (h.2.trans hneg.symm)⟩
    rw [add_pt, if_neg hopp]
    by_cases hs : a = c ∧ b = d
    ·obtain ⟨rfl, rfl⟩ := hs
     have hyy : b + b ≠ 0 := fun e => hopp ⟨rfl, opp_ring e⟩
     have ed : fi ((b.val + b.val) % pP) = b + b := by
      show fi (adp b.val b.val) = b + b
      rw [fi_add, fi_of]
     obtain ⟨v, hv, ev⟩ := inv_fi (mod_p (b.val + b.val)) (by rw [ed]; exact hyy)
     have h := radd_tan a.isLt b.isLt hopp2 hv w
     rw [rl_pt a.isLt b.isLt a.isLt, fi_of, fi_of, fi_mul, fi_mul, fi_sub pP_one, fi_mul, fi_of, fi_lit3, fi_one, ev, ed] at h
     have es : slope a b a b = 3 * (a * a - 1) * iv (b + b) := if_pos ⟨rfl, rfl⟩
     rw [es]
     exact h
    ·have hac : a ≠ c := by
      intro e
      subst e
      have h1 : b * b = a * a * a - 3 * a + cb := hP
      have h2 : d * d = a * a * a - 3 * a + cb := hQ
      rcases zd (sq_ring h1 h2) with h3 | h3
      ·exact hs ⟨rfl, sub_eq_ring h3⟩
      ·exact hopp ⟨rfl, add_eq_ring h3⟩
     have hd : c - a ≠ 0 := fun e => hac (sub_eq_ring e).symm
     have ed : fi ((c.val + pP - a.val) % pP) = c - a := by
      show fi (msp c.val a.val) = c - a
      rw [fi_sub a.isLt, fi_of, fi_of]
     obtain ⟨v, hv, ev⟩ := inv_fi (mod_p (c.val + pP - a.val)) (by rw [ed]; exact hd)
     have h := radd_gen a.isLt b.isLt c.isLt d.isLt hopp2 (fun h => hs ⟨Fin.ext h.1, Fin.ext h.2⟩) hv w
     rw [rl_pt a.isLt b.isLt c.isLt, fi_of, fi_of, fi_of, fi_mul, fi_sub b.isLt, fi_of, fi_of, ev, ed] at h
     have es : slope a b c d = (d - b) * iv (c - a) := if_neg hs
     rw [es]
     exact h
theorem rgNeg {P : Pt pP} (w : World) : Calls Try.prog 20 #[vP P] w fun e w' => e = .returned (vP (neg P)) ∧ Below w.heap.size w w' := by
 have h := rneg_calls (EC.nx P) (ny_lt P) (EC.nf P) w
 have e : ptV (EC.nx P) ((0 + pP - EC.ny P) % pP) (EC.nf P) = vP (neg P) := by
  cases P with
  | far =>
   have e0 : (0 + pP - 0) % pP = 0 := by decide +kernel
   show ptV 0 ((0 + pP - 0) % pP) true = ptV 0 0 true
   rw [e0]
  | affp x y =>
   show ptV x.val (msp 0 y.val) false = ptV x.val (-y).val false
   have e0 : fi (msp 0 y.val) = -y := by
    rw [fi_sub y.isLt, fi_zero, fi_of]
    exact zero_sub_ring y
   rw [← e0, fi_val (msp_lt 0 y.val)]
 rw [e] at h
 exact h
end Go.Proofs.Ytkfjhndofbmhoaa
namespace Go.Proofs.Ytkfjhndofbmhoaa
open EC Go.RowKit Go.Proofs.Ytkfjhndofbmhoaa.Arr Go.Proofs.YtkfjhndofbmhoaaW.PrintWords Go.Proofs.YtkfjhndofbmhoaaW.PrintLast Go.Proofs.YtkfjhndofbmhoaaW.PrintMore
attribute [local go_sem high] eqg_num eqg_num0 eqg_pt
set_option linter.unusedVariables false
set_option linter.unusedSimpArgs false
end Go.Proofs.Ytkfjhndofbmhoaa
