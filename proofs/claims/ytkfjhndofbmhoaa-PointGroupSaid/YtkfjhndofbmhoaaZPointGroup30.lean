/- What the proof of PointGroup is made of, part 30. -/
import Derived.Test.YtkfjhndofbmhoaaZPointGroup29
import Derived.Test.YtkfjhndofbmhoaaZPointGroup28
import Derived.Test.YtkfjhndofbmhoaaZPointGrouph
namespace Go.Proofs.Ytkfjhndofbmhoaa
open Go.RowKit Go.Proofs.Ytkfjhndofbmhoaa.Arr Go.Proofs.YtkfjhndofbmhoaaW.PrintWords Go.Proofs.YtkfjhndofbmhoaaW.PrintLast Go.Proofs.YtkfjhndofbmhoaaW.PrintMore
set_option linter.unusedVariables false
set_option linter.unusedSimpArgs false
theorem lit_gX : Value.agg #[.int .u64 17627433388654248598, .int .u64 8575836109218198432, .int .u64 17923454489921339634, .int .u64 7716867327612699207] = numV gX := num_lit gX 17627433388654248598 8575836109218198432 17923454489921339634 7716867327612699207 (by decide +kernel)
theorem lit_gY : Value.agg #[.int .u64 14678990851816772085, .int .u64 3156516839386865358, .int .u64 10297457778147434006, .int .u64 5756518291402817435] = numV gY := num_lit gY 14678990851816772085 3156516839386865358 10297457778147434006 5756518291402817435 (by decide +kernel)
theorem bt_c (x y z t : Int) : Try.prog.built 24 [(0, .int .u64 x), (1, .int .u64 y), (2, .int .u64 z), (3, .int .u64 t)] = some #[.int .u64 x, .int .u64 y, .int .u64 z, .int .u64 t] := by kernel_rfl
theorem bd_c {ops : Array Oper} {rest : List Oper} {op : Oper} {a : Act} {w : World} {Q : Exit → Act → World → Prop} {x y z t : Int} {n : Nat} (hgd : op.guard = none) (d : Option Tmp) (hd : op.dst = d) (ho : op.op = .build 24 #[(0, .const (.int .u64 x)), (1, .const (.int .u64 y)), (2, .const (.int .u64 z)), (3, .const (.int .u64 t))]) (e : Value.agg #[.int .u64 x, .int .u64 y, .int .u64 z, .int .u64 t] = numV n)
  (k : wpList Try.prog ops Q rest (a.put d (numV n)) w) : wpList Try.prog ops Q (op :: rest) a w := by
 rw [← e] at k
 refine Go.Great.wpList_runTo hgd d hd _ w ?_ k
 unfold execOp
 rw [ho]
 have h := run_build w 24 #[(0, .int .u64 x), (1, .int .u64 y), (2, .int .u64 z), (3, .int .u64 t)] _ (bt_c x y z t)
 simp only [List.map_toArray, List.map_cons, List.map_nil, Act.eval, Sem.run_bind, h, Result.andThen_ok]
 rfl
set_option maxRecDepth 100000 in
set_option maxHeartbeats 8000000 in
theorem pbase_calls (w : World) :
  Calls Try.prog 18 #[] w fun e w' => e = .returned (ptV gX gY false) ∧ Below w.heap.size w w' := by
 go_enter Try.func18, Try.ntmps18
 go_upto_region 1 with (fail)
 refine wp_at (w2 := (World.alloc w (.cells (pw 0 0 false).toArray 26))) rfl ?_
 obtain ⟨x_0, e_0, h_0, b_0, s_0⟩ := new_PtAt w 0 0 false
 rw [e_0]
 have HB : Aside0 (Below w.heap.size w x_0) := Aside0.mk b_0
 have HR : Aside0 (PtAt x_0 (w.heap.size) 0 0 false) := Aside0.mk h_0
 have HS : Aside0 (w.heap.size + 1 ≤ x_0.heap.size) := Aside0.mk (Nat.le_of_eq s_0.symm)
 clear e_0 h_0 b_0 s_0
 obtain ⟨w1, hw_⟩ : ∃ x, x = x_0 := ⟨_, rfl⟩
 subst hw_
 go_wp2_with (first | ((with_reducible refine gate_dst (N := 1) rfl ?_); refine bd_c rfl _ rfl rfl lit_gX ?_) | ((with_reducible refine gate_dst (N := 2) rfl ?_); refine bd_c rfl _ rfl rfl lit_gY ?_) | ((with_reducible refine gate_dst (N := 3) rfl ?_); refine bd_pt (p := gX) (q := gY) rfl _ rfl (.tmp 1) (.tmp 2) rfl rfl rfl ?_) | ((with_reducible refine gate_st (y := .tmp 3) rfl ?_); (try simp only [aS]); refine st_pt (x := gX) (y := gY) (f := false) HR.out rfl _ _ rfl rfl rfl ?_; intro u1 hn_ hb_; replace HR := Aside0.mk hn_; replace HB := Aside0.mk (bl_but HB.out hb_ HB.out.size (by omega)); replace HS := Aside0.mk (Nat.le_trans HS.out hb_.size); clear hn_ hb_))
 exact bodyPost_ret (v := ptV gX gY false) (results_pt rfl rfl HR.out) rfl ⟨rfl, HB.out⟩
end Go.Proofs.Ytkfjhndofbmhoaa
namespace Go.Proofs.Ytkfjhndofbmhoaa
open Go.RowKit Go.Proofs.Ytkfjhndofbmhoaa.Arr Go.Proofs.YtkfjhndofbmhoaaW.PrintWords Go.Proofs.YtkfjhndofbmhoaaW.PrintLast Go.Proofs.YtkfjhndofbmhoaaW.PrintMore
attribute [local go_sem high] eqg_num eqg_num0
set_option linter.unusedVariables false
set_option linter.unusedSimpArgs false
def gZ : Nat := msp 0 gY
theorem gX_N : gX < N256 := lt_N gX_lt
theorem gY_N : gY < N256 := lt_N gY_lt
theorem gZ_N : gZ < N256 := lt_N (mod_p _)
theorem on_g : onB gX gY false = true := by decide +kernel
theorem on_gz : onB gX gZ false = true := by decide +kernel
theorem on_0 : onB 0 0 false = false := by decide +kernel
theorem on_base (w : World) : Calls Try.prog 10 #[ptV gX gY false] w fun e w' => e = .returned (.bool true) ∧ Below w.heap.size w w' := by
 have h := pOn_calls gX_N gY_N false w
 rw [on_g] at h
 exact h
theorem on_zero (w : World) : Calls Try.prog 10 #[ptV 0 0 false] w fun e w' => e = .returned (.bool false) ∧ Below w.heap.size w w' := by
 have h := pOn_calls N256_pos N256_pos false w
 rw [on_0] at h
 exact h
theorem neg_base (w : World) : Calls Try.prog 12 #[ptV gX gY false] w fun e w' => e = .returned (.tuple #[ptV gX gZ false, .nilIface]) ∧ Below w.heap.size w w' := by
 have h := pNeg_calls false gX_N gY_N w
 have e : ngV gX gY false = .tuple #[ptV gX gZ false, .nilIface] := by
  unfold ngV
  rw [on_g]
  rfl
 rw [e] at h
 exact h
theorem flJ_far (x y : Nat) : flJ x y 0 = ptV 0 0 true := by
 have h : invO pP 0 = none := by
  cases h : invO pP 0 with
  | none => rfl
  | some v =>
   have := (invO_spec h).2
   rw [Nat.zero_mul, Nat.zero_mod] at this
   cases this
 unfold flJ
 rw [h]
theorem sum_base : suJ gX gY 1 gX gZ 1 = (0, 0, 0) := by decide +kernel
theorem add_base (w : World) : Calls Try.prog 11 #[ptV gX gY false, ptV gX gZ false] w fun e w' => e = .returned (.tuple #[ptV 0 0 true, .nilIface]) ∧ Below w.heap.size w w' := by
 have h := pAdd_calls (f1 := false) (f2 := false) gX_N gY_N gX_N gZ_N w
 have ea : adV gX gY false gX gZ false = ptV 0 0 true := by
  have e1 : adV gX gY false gX gZ false = flJ (suJ gX gY 1 gX gZ 1).1 (suJ gX gY 1 gX gZ 1).2.1 (suJ gX gY 1 gX gZ 1).2.2 := rfl
  rw [e1, sum_base]
  exact flJ_far 0 0
 have e : apV gX gY false gX gZ false = .tuple #[ptV 0 0 true, .nilIface] := by
  unfold apV
  rw [on_g, on_gz, ea]
  rfl
 rw [e] at h
 exact h
set_option maxRecDepth 100000 in
set_option maxHeartbeats 8000000 in
theorem up_calls (w : World) :
  Calls Try.prog 9 #[] w fun e w' => e = .returned (.bool true) ∧ Below w.heap.size w w' := by
 have hq : ∀ w, (binOp .eql 26 (ptV 0 0 true) (.agg #[.int .u64 0, .int .u64 0, .int .u64 0, .int .u64 0, .int .u64 0, .int .u64 0, .int .u64 0, .int .u64 0, .bool true])).run Try.prog w = .ok (.bool true) w := fun w =>
  eql_pt (x := 0) (y := 0) (x' := 0) (y' := 0) N256_pos N256_pos N256_pos N256_pos true true w
 have hg : ∀ w x_ y_, (eqGuard .eql 26 x_ y_ (ptV 0 0 true) (.agg #[.int .u64 0, .int .u64 0, .int .u64 0, .int .u64 0, .int .u64 0, .int .u64 0, .int .u64 0, .int .u64 0, .bool true])).run Try.prog w = .ok () w := fun w x_ y_ => eqg_pt .eql x_ y_ 0 0 0 0 true true w
 have K1 := Aside0.mk (fun (u : World) => pbase_calls u)
 have K2 := Aside0.mk (fun (u : World) => neg_base u)
 have K3 := Aside0.mk (fun (u : World) => add_base u)
 have K4 := Aside0.mk (fun (u : World) => on_base u)
 have K5 := Aside0.mk (fun (u : World) => on_zero u)
 go_enter Try.func9, Try.ntmps9
 go_upto_region 1 with (fail)
 have HB : Aside0 (Below w.heap.size w w) := Aside0.mk (Below.refl _ _)
 have HS : Aside0 (w.heap.size ≤ w.heap.size) := Aside0.mk (Nat.le_refl _)
 go_upto_region 2 with (first | ((with_reducible refine gate_dst (N := 6) rfl ?_); refine goesL_ (some 6) rfl rfl Try.func18 (by kernel_rfl) rfl #[] rfl (by (try simp only [List.map_toArray, List.map_cons, List.map_nil]); first | done | rfl) ?_; (with_reducible refine (K1.out _).mono ?_); rintro e u1 ⟨rfl, hb_⟩; refine ⟨_, rfl, ?_⟩; replace HB := Aside0.mk (bl_on HB.out hb_ HB.out.size); replace HS := Aside0.mk (Nat.le_trans HS.out hb_.size); clear hb_) | ((with_reducible refine gate_dst (N := 1) rfl ?_); refine al_pt rfl _ rfl rfl ?_; intro g1 u2 eg_ hn_ hb_; have HXg1 : Aside0 (w.heap.size ≤ g1) := Aside0.mk (by rw [eg_]; exact HS.out); replace HB := Aside0.mk (bl_on HB.out hb_ HB.out.size); replace HS := Aside0.mk (Nat.le_trans HS.out hb_.size); have Hg1 := Aside0.mk hn_; clear hn_ hb_ eg_) | ((with_reducible refine gate_st (y := .tmp 6) rfl ?_); (try simp only [aS]); refine st_pt (x := gX) (y := gY) (f := false) Hg1.out rfl _ _ rfl rfl rfl ?_; intro u3 hn_ hb_; replace Hg1 := Aside0.mk hn_; replace HB := Aside0.mk (bl_but HB.out hb_ HB.out.size (by have := HXg1.out; omega)); replace HS := Aside0.mk (Nat.le_trans HS.out hb_.size); clear hn_ hb_))
 go_upto_region 3 with (first | ((with_reducible refine gate_dst (N := 8) rfl ?_); refine ld_pt Hg1.out rfl _ rfl rfl ?_) | ((with_reducible refine gate_dst (N := 9) rfl ?_); refine goesL_ (some 9) rfl rfl Try.func12 (by kernel_rfl) rfl #[ptV gX gY false] rfl (by (try simp only [List.map_toArray, List.map_cons, List.map_nil]); first | done | rfl) ?_; (with_reducible refine (K2.out _).mono ?_); rintro e u4 ⟨rfl, hb_⟩; refine ⟨_, rfl, ?_⟩; replace Hg1 := Aside0.mk (Hg1.out.on hb_); replace HB := Aside0.mk (bl_on HB.out hb_ HB.out.size); replace HS := Aside0.mk (Nat.le_trans HS.out hb_.size); clear hb_) | ((with_reducible refine gate_dst (N := 2) rfl ?_); refine al_pt rfl _ rfl rfl ?_; intro g2 u5 eg_ hn_ hb_; have HXg2 : Aside0 (w.heap.size ≤ g2 ∧ g1 < g2) := Aside0.mk (by rw [eg_]; exact ⟨HS.out, Hg1.out.size⟩); replace Hg1 := Aside0.mk (Hg1.out.on hb_); replace HB := Aside0.mk (bl_on HB.out hb_ HB.out.size); replace HS := Aside0.mk (Nat.le_trans HS.out hb_.size); have Hg2 := Aside0.mk hn_; clear hn_ hb_ eg_) | ((with_reducible refine gate_st (y := .tmp 10) rfl ?_); (try simp only [aS]); refine st_pt (x := gX) (y := gZ) (f := false) Hg2.out rfl _ _ rfl rfl rfl ?_; intro u6 hn_ hb_; replace Hg1 := Aside0.mk (Hg1.out.but hb_ (by have := HXg1.out; have := HXg2.out; omega)); replace Hg2 := Aside0.mk hn_; replace HB := Aside0.mk (bl_but HB.out hb_ HB.out.size (by have := HXg1.out; have := HXg2.out; omega)); replace HS := Aside0.mk (Nat.le_trans HS.out hb_.size); clear hn_ hb_))
 go_upto_region 4 with (first | ((with_reducible refine gate_dst (N := 13) rfl ?_); refine ld_pt Hg1.out rfl _ rfl rfl ?_) | ((with_reducible refine gate_dst (N := 14) rfl ?_); refine ld_pt Hg2.out rfl _ rfl rfl ?_) | ((with_reducible refine gate_dst (N := 15) rfl ?_); refine goesL_ (some 15) rfl rfl Try.func11 (by kernel_rfl) rfl #[ptV gX gY false, ptV gX gZ false] rfl (by (try simp only [List.map_toArray, List.map_cons, List.map_nil]); first | done | rfl) ?_; (with_reducible refine (K3.out _).mono ?_); rintro e u7 ⟨rfl, hb_⟩; refine ⟨_, rfl, ?_⟩; replace Hg1 := Aside0.mk (Hg1.out.on hb_); replace Hg2 := Aside0.mk (Hg2.out.on hb_); replace HB := Aside0.mk (bl_on HB.out hb_ HB.out.size); replace HS := Aside0.mk (Nat.le_trans HS.out hb_.size); clear hb_) | ((with_reducible refine gate_dst (N := 4) rfl ?_); refine al_pt rfl _ rfl rfl ?_; intro g4 u8 eg_ hn_ hb_; have HXg4 : Aside0 (w.heap.size ≤ g4 ∧ g1 < g4 ∧ g2 < g4) := Aside0.mk (by rw [eg_]; exact ⟨HS.out, Hg1.out.size, Hg2.out.size⟩); replace Hg1 := Aside0.mk (Hg1.out.on hb_); replace Hg2 := Aside0.mk (Hg2.out.on hb_); replace HB := Aside0.mk (bl_on HB.out hb_ HB.out.size); replace HS := Aside0.mk (Nat.le_trans HS.out hb_.size); have Hg4 := Aside0.mk hn_; clear hn_ hb_ eg_) | ((with_reducible refine gate_st (y := .tmp 16) rfl ?_); (try simp only [aS]); refine st_pt (x := 0) (y := 0) (f := true) Hg4.out rfl _ _ rfl rfl rfl ?_; intro u9 hn_ hb_; replace Hg1 := Aside0.mk (Hg1.out.but hb_ (by have := HXg1.out; have := HXg2.out; have := HXg4.out; omega)); replace Hg2 := Aside0.mk (Hg2.out.but hb_ (by have := HXg1.out; have := HXg2.out; have := HXg4.out; omega)); replace Hg4 := Aside0.mk hn_; replace HB := Aside0.mk (bl_but HB.out hb_ HB.out.size (by have := HXg1.out; have := HXg2.out; have := HXg4.out; omega)); replace HS := Aside0.mk (Nat.le_trans HS.out hb_.size); clear hn_ hb_))
 go_wp2_with (first | ((with_reducible refine gate_dst (N := 18) rfl ?_); refine ld_pt Hg1.out rfl _ rfl rfl ?_) | ((with_reducible refine gate_dst (N := 19) rfl ?_); refine goesL_ (some 19) rfl rfl Try.func10 (by kernel_rfl) rfl #[ptV gX gY false] rfl (by (try simp only [List.map_toArray, List.map_cons, List.map_nil]); first | done | rfl) ?_; (with_reducible refine (K4.out _).mono ?_); rintro e u10 ⟨rfl, hb_⟩; refine ⟨_, rfl, ?_⟩; replace Hg1 := Aside0.mk (Hg1.out.on hb_); replace Hg2 := Aside0.mk (Hg2.out.on hb_); replace Hg4 := Aside0.mk (Hg4.out.on hb_); replace HB := Aside0.mk (bl_on HB.out hb_ HB.out.size); replace HS := Aside0.mk (Nat.le_trans HS.out hb_.size); clear hb_) | ((with_reducible refine gate_dst (N := 22) rfl ?_); refine wpList_step (fun K_ hK_ => ?_); refine goes_ Try.func10 (by kernel_rfl) rfl #[ptV 0 0 false] (by rfl) rfl rfl (by (try simp only [List.map_toArray, List.map_cons, List.map_nil]); first | done | rfl) ?_; (with_reducible refine (K5.out _).mono ?_); rintro e u11 ⟨rfl, hb_⟩; refine ⟨_, rfl, ?_⟩; refine hK_ _ _ ?_; clear hK_ K_; replace Hg1 := Aside0.mk (Hg1.out.on hb_); replace Hg2 := Aside0.mk (Hg2.out.on hb_); replace Hg4 := Aside0.mk (Hg4.out.on hb_); replace HB := Aside0.mk (bl_on HB.out hb_ HB.out.size); replace HS := Aside0.mk (Nat.le_trans HS.out hb_.size); clear hb_) | ((with_reducible refine gate_dst (N := 34) rfl ?_); refine ld_ptG Hg4.out (by rfl) _ rfl rfl ?_))
 go_ret
 exact ⟨rfl, HB.out⟩
end Go.Proofs.Ytkfjhndofbmhoaa
namespace Go.Proofs.Ytkfjhndofbmhoaa.EC
open Go.RowKit Pt
set_option linter.unusedVariables false
set_option linter.unusedSimpArgs false
theorem fd_of {p : Nat} [NeZero p] (hp : Pr.Prime p) : Fd p := ⟨fun x hx => by
 have h0 : x.val ≠ 0 := fun e => hx (Fin.ext (by rw [e]; rfl))
 obtain ⟨a, ha, h⟩ := Pr.inv_ex hp (Nat.pos_of_ne_zero h0) x.isLt
 refine ⟨ph p a, Fin.ext ?_⟩
 have h1 : (1 : Fin p).val = 1 % p := rfl
 rw [h1, Nat.mod_eq_of_lt hp.1, Fin.val_mul, ph_lt ha]
 exact h⟩
instance : NeZero pP := ⟨Nat.pos_iff_ne_zero.1 pP_pos⟩
theorem pr_p : Pr.Prime pP := Pr.pr_qP
instance : Nonempty (Fd pP) := ⟨fd_of pr_p⟩
/-- a number, as an element of the field -/
def fi (a : Nat) : Fin pP := ph pP a
def cb : Fin pP := fi cB
theorem fi_mul (a b : Nat) : fi (mmp a b) = fi a * fi b := ph_mul a b
theorem fi_add (a b : Nat) : fi (adp a b) = fi a + fi b := ph_add a b
theorem fi_sub {a b : Nat} (hb : b < pP) : fi (msp a b) = fi a - fi b := ph_sub (Nat.le_of_lt hb)
theorem fi_inj {a b : Nat} (ha : a < pP) (hb : b < pP) (h : fi a = fi b) : a = b := ph_inj ha hb h
theorem fi_val {a : Nat} (ha : a < pP) : (fi a).val = a := ph_lt ha
theorem fi_of (x : Fin pP) : fi x.val = x := ph_of x
theorem fi_zero : fi 0 = 0 := ph0
theorem fi_ne {a : Nat} (ha : a < pP) (h : a ≠ 0) : fi a ≠ 0 := ph_ne ha h
theorem fi_lit2 : fi 2 = 2 := rfl
theorem fi_lit3 : fi 3 = 3 := rfl
theorem fi_lit4 : fi 4 = 4 := rfl
theorem fi_lit8 : fi 8 = 8 := rfl
theorem fi_one : fi 1 = 1 := rfl
theorem ok_cb : Ok cb := ⟨by decide +kernel, by decide +kernel, by decide +kernel⟩
theorem one_p : (1 : Fin pP) ≠ 0 := by decide +kernel
/-- a point, as the curve's -/
def P2 (x y : Nat) (f : Bool) : Pt pP := if f then far else Pt.affp (fi x) (fi y)
/-- the curve's point, as a value -/
def nx : Pt pP → Nat | far => 0 | Pt.affp x _ => x.val
def ny : Pt pP → Nat | far => 0 | Pt.affp _ y => y.val
def nf : Pt pP → Bool | far => true | Pt.affp _ _ => false
def vP (P : Pt pP) : Value := ptV (nx P) (ny P) (nf P)
theorem nx_lt (P : Pt pP) : nx P < pP := by
 cases P with
 | far => exact pP_pos
 | affp x y => exact x.isLt
theorem ny_lt (P : Pt pP) : ny P < pP := by
 cases P with
 | far => exact pP_pos
 | affp x y => exact y.isLt
theorem P2_n (P : Pt pP) : P2 (nx P) (ny P) (nf P) = P := by
 cases P with
 | far => rfl
 | affp x y => exact congr (congrArg Pt.affp (fi_of x)) (fi_of y)
theorem on_eq (x y : Nat) (h : mmp y y = adp (msp (mmp (mmp x x) x) (mmp x 3)) cB) : fi y * fi y = fi x * fi x * fi x - 3 * fi x + cb := by
 have h2 := congrArg fi h
 rw [fi_mul, fi_add, fi_sub (mmp_lt _ _), fi_mul, fi_mul, fi_mul, fi_lit3] at h2
 rw [h2, Fin.mul_comm (fi x) 3]
 rfl
theorem on_spec {x y : Nat} {f : Bool} (h : onB x y f = true) : On cb (P2 x y f) := by
 cases f with
 | true => trivial
 | false =>
  unfold onB at h
  rw [if_neg (by decide)] at h
  exact on_eq x y (of_decide_eq_true h).2.2
theorem on_back {P : Pt pP} (h : On cb P) : onB (nx P) (ny P) (nf P) = true := by
 cases P with
 | far =>
  show onB 0 0 true = true
  decide +kernel
 | affp x y =>
  show onB x.val y.val false = true
  unfold onB
  rw [if_neg (by decide)]
  refine decide_eq_true ⟨x.isLt, y.isLt, fi_inj (mmp_lt _ _) (adp_lt _ _) ?_⟩
  rw [fi_mul, fi_add, fi_sub (mmp_lt _ _), fi_mul, fi_mul, fi_mul, fi_lit3, fi_of, fi_of, Fin.mul_comm x 3]
  exact h
/-- a point on the curve is written in one way -/
theorem on_form {x y : Nat} {f : Bool} (h : onB x y f = true) : x = nx (P2 x y f) ∧ y = ny (P2 x y f) ∧ f = nf (P2 x y f) := by
 cases f with
 | true =>
  unfold onB at h
  rw [if_pos rfl] at h
  obtain ⟨rfl, rfl⟩ := of_decide_eq_true h
  exact ⟨rfl, rfl, rfl⟩
 | false =>
  obtain ⟨hx, hy⟩ := onB_lt h
  exact ⟨(fi_val hx).symm, (fi_val hy).symm, rfl⟩
def fT (t : T3) : Fin pP × Fin pP × Fin pP := (fi t.1, fi t.2.1, fi t.2.2)
theorem twJ_eq (x y z : Nat) : fT (twJ x y z) = twF (fi x, fi y, fi z) := by
 have lt1 : ∀ a b, mmp a b < pP := mmp_lt
 have lt2 : ∀ a b, msp a b < pP := msp_lt
 unfold twJ fT twF
 dsimp only
 rw [fi_sub (lt1 _ _), fi_sub (lt1 _ _), fi_sub (lt1 _ _), fi_sub (lt1 _ _)]
 simp only [fi_mul, fi_add, fi_sub (lt1 _ _), fi_sub (lt2 _ _), fi_lit3, fi_lit4, fi_lit8]
theorem suJ_eq {x1 y1 z1 x2 y2 z2 : Nat} (b1 : z1 < pP) (b2 : z2 < pP) : fT (suJ x1 y1 z1 x2 y2 z2) = suF (fi x1, fi y1, fi z1) (fi x2, fi y2, fi z2) := by
 have lt1 : ∀ a b, mmp a b < pP := mmp_lt
 have lt2 : ∀ a b, msp a b < pP := msp_lt
 unfold suJ suF
 by_cases h1 : z1 = 0
 ·rw [if_pos h1, if_pos (show fi z1 = 0 by rw [h1]; exact fi_zero)]
  rfl
 rw [if_neg h1, if_neg (show ¬ fi z1 = 0 from fi_ne b1 h1)]
 by_cases h2 : z2 = 0
 ·rw [if_pos h2, if_pos (show fi z2 = 0 by rw [h2]; exact fi_zero)]
  rfl
 rw [if_neg h2, if_neg (show ¬ fi z2 = 0 from fi_ne b2 h2)]
 dsimp only
 have eh : fi (msp (mmp x2 (mmp z1 z1)) (mmp x1 (mmp z2 z2))) = fi x2 * (fi z1 * fi z1) - fi x1 * (fi z2 * fi z2) := by simp only [fi_sub (lt1 _ _), fi_mul]
 have er : fi (msp (mmp y2 (mmp (mmp z1 z1) z1)) (mmp y1 (mmp (mmp z2 z2) z2))) = fi y2 * (fi z1 * fi z1 * fi z1) - fi y1 * (fi z2 * fi z2 * fi z2) := by simp only [fi_sub (lt1 _ _), fi_mul]
 have lh := lt2 (mmp x2 (mmp z1 z1)) (mmp x1 (mmp z2 z2))
 have lr := lt2 (mmp y2 (mmp (mmp z1 z1) z1)) (mmp y1 (mmp (mmp z2 z2) z2))
 rw [← eh, ← er]
 generalize msp (mmp x2 (mmp z1 z1)) (mmp x1 (mmp z2 z2)) = h at *
 generalize msp (mmp y2 (mmp (mmp z1 z1) z1)) (mmp y1 (mmp (mmp z2 z2) z2)) = r at *
 by_cases h3 : h = 0
 ·rw [if_pos h3, if_pos (show fi h = 0 by rw [h3]; exact fi_zero)]
  by_cases h4 : r = 0
  ·rw [if_pos h4, if_pos (show fi r = 0 by rw [h4]; exact fi_zero)]
   exact twJ_eq x1 y1 z1
  ·rw [if_neg h4, if_neg (show ¬ fi r = 0 from fi_ne lr h4)]
   exact congr (congrArg Prod.mk fi_zero) (congr (congrArg Prod.mk fi_zero) fi_zero)
 ·rw [if_neg h3, if_neg (show ¬ fi h = 0 from fi_ne lh h3)]
  unfold fT
  dsimp only
  simp only [fi_mul, fi_add, fi_sub (lt1 _ _), fi_sub (lt2 _ _), fi_lit2]
theorem flJ_eq {x y z : Nat} (b3 : z < pP) : flJ x y z = vP (tp (fi x, fi y, fi z)) := by
 by_cases hz : z = 0
 ·subst hz
  rw [flJ_far, fi_zero, tp_far]
  rfl
 ·obtain ⟨v, hv, h1⟩ := Pr.inv_ex pr_p (Nat.pos_of_ne_zero hz) b3
  have e : invO pP z = some v := invO_some ⟨hv, h1⟩
  have h2 : fi z * fi v = 1 := by
   rw [← fi_mul, show mmp z v = 1 from h1]
   rfl
  have h3 := ivm (fi_ne b3 hz)
  have h4 : iv (fi z) = fi v := by grobner
  unfold flJ
  rw [e]
  unfold tp
  rw [if_neg (fi_ne b3 hz)]
  dsimp only
  rw [h4]
  unfold vP nx ny nf
  dsimp only
  rw [← fi_mul, ← fi_mul, ← fi_mul, ← fi_mul, fi_val (mmp_lt _ _), fi_val (mmp_lt _ _)]
theorem li_eq (x y : Nat) (f : Bool) : tp (fT (liJ x y f)) = P2 x y f := by
 cases f with
 | true =>
  show tp (fi 0, fi 0, fi 0) = far
  rw [fi_zero, tp_far]
 | false =>
  show tp (fi x, fi y, fi 1) = Pt.affp (fi x) (fi y)
  rw [fi_one, tp_one one_p]
theorem adV_eq {x1 y1 x2 y2 : Nat} {f1 f2 : Bool} (o1 : onB x1 y1 f1 = true) (o2 : onB x2 y2 f2 = true) : adV x1 y1 f1 x2 y2 f2 = vP (add (P2 x1 y1 f1) (P2 x2 y2 f2)) := by
 obtain ⟨bx1, by1⟩ := onB_lt o1
 obtain ⟨bx2, by2⟩ := onB_lt o2
 have la := liJ_lt bx1 by1 f1
 have lc := liJ_lt bx2 by2 f2
 have ea := li_eq x1 y1 f1
 have ec := li_eq x2 y2 f2
 have oa := on_spec o1
 have oc := on_spec o2
 rw [← ea] at oa ⊢
 rw [← ec] at oc ⊢
 unfold adV
 generalize liJ x1 y1 f1 = a at *
 generalize liJ x2 y2 f2 = c at *
 dsimp only
 have ls := suJ_lt la.1 la.2.1 la.2.2 lc.1 lc.2.1 lc.2.2
 have es := suJ_eq (x1 := a.1) (y1 := a.2.1) (x2 := c.1) (y2 := c.2.1) la.2.2 lc.2.2
 generalize suJ a.1 a.2.1 a.2.2 c.1 c.2.1 c.2.2 = s at *
 rw [flJ_eq ls.2.2, ← suF_spec ok_cb.h2 oa oc]
 exact congrArg (fun t => vP (tp t)) es
theorem vN (P : Pt pP) : nx P < N256 ∧ ny P < N256 := ⟨lt_N (nx_lt P), lt_N (ny_lt P)⟩
theorem gOn {P : Pt pP} (h : On cb P) (w : World) : Calls Try.prog 10 #[vP P] w fun e w' => e = .returned (.bool true) ∧ Below w.heap.size w w' := by
 have := pOn_calls (vN P).1 (vN P).2 (nf P) w
 rw [on_back h] at this
 exact this
theorem gAdd {P Q : Pt pP} (h1 : On cb P) (h2 : On cb Q) (w : World) : Calls Try.prog 11 #[vP P, vP Q] w fun e w' => e = .returned (.tuple #[vP (add P Q), .nilIface]) ∧ Below w.heap.size w w' := by
 have h := pAdd_calls (f1 := nf P) (f2 := nf Q) (vN P).1 (vN P).2 (vN Q).1 (vN Q).2 w
 have e : apV (nx P) (ny P) (nf P) (nx Q) (ny Q) (nf Q) = .tuple #[vP (add P Q), .nilIface] := by
  unfold apV
  rw [on_back h1, on_back h2, adV_eq (on_back h1) (on_back h2), P2_n, P2_n]
  rfl
 rw [e] at h
 exact h
theorem gNeg {P : Pt pP} (h1 : On cb P) (w : World) : Calls Try.prog 12 #[vP P] w fun e w' => e = .returned (.tuple #[vP (neg P), .nilIface]) ∧ Below w.heap.size w w' := by
 have h := pNeg_calls (nf P) (vN P).1 (vN P).2 w
 have e : ngV (nx P) (ny P) (nf P) = .tuple #[vP (neg P), .nilIface] := by
  unfold ngV
  rw [on_back h1]
  cases P with
  | far =>
   have e0 : msp 0 0 = 0 := by decide +kernel
   show Value.tuple #[ptV 0 (msp 0 0) true, .nilIface] = _
   rw [e0]
   rfl
  | affp x y =>
   show Value.tuple #[ptV x.val (msp 0 y.val) false, .nilIface] = .tuple #[ptV x.val (-y).val false, .nilIface]
   have e0 : msp 0 y.val = (-y).val := by
    rw [← fi_val (msp_lt 0 y.val), fi_sub y.isLt, fi_zero, fi_of]
    exact congrArg Fin.val (by grobner)
   rw [e0]
 rw [e] at h
 exact h
theorem vP_form (P : Pt pP) : ∃ x y f, vP P = ptV x y f ∧ x < N256 ∧ y < N256 := ⟨_, _, _, rfl, vN P⟩
theorem on_vP {x y : Nat} {f : Bool} (h : onB x y f = true) : ptV x y f = vP (P2 x y f) := by
 obtain ⟨h1, h2, h3⟩ := on_form h
 unfold vP
 rw [← h1, ← h2, ← h3]
end Go.Proofs.Ytkfjhndofbmhoaa.EC
