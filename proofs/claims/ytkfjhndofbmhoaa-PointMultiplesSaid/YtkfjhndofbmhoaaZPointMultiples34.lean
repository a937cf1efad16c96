/- What the proof of PointMultiples is made of, part 34. -/
import Derived.Test.YtkfjhndofbmhoaaZPointMultiples33
import Derived.Test.YtkfjhndofbmhoaaZPointMultiples30
import Derived.Test.YtkfjhndofbmhoaaZPointMultiples32
import Derived.Test.YtkfjhndofbmhoaaZPointMultiplesh
namespace Go.Proofs.Ytkfjhndofbmhoaa
open Go.RowKit Go.Proofs.Ytkfjhndofbmhoaa.Arr Go.Proofs.YtkfjhndofbmhoaaW.PrintWords Go.Proofs.YtkfjhndofbmhoaaW.PrintLast Go.Proofs.YtkfjhndofbmhoaaW.PrintMore
attribute [local go_sem high] eqg_num eqg_num0
set_option linter.unusedVariables false
set_option linter.unusedSimpArgs false
abbrev T3 := Nat × Nat × Nat
def twT (a : T3) : T3 := twJ a.1 a.2.1 a.2.2
def suT (a c : T3) : T3 := suJ a.1 a.2.1 a.2.2 c.1 c.2.1 c.2.2
/-- doubled and added, the highest n of L bits -/
def muS (k : Nat) (t : T3) (L : Nat) : Nat → T3
 | 0 => (0, 0, 0)
 | n + 1 => if k.testBit (L - (n + 1)) then suT (twT (muS k t L n)) t else twT (muS k t L n)
theorem muS_lt {k : Nat} {t : T3} (ht : Lt3 t) (L : Nat) : ∀ n, Lt3 (muS k t L n)
 | 0 => ⟨pP_pos, pP_pos, pP_pos⟩
 | n + 1 => by
  unfold muS
  have h := twJ_lt (muS k t L n).1 (muS k t L n).2.1 (muS k t L n).2.2
  by_cases hb : k.testBit (L - (n + 1)) = true
  ·rw [if_pos hb]
   exact suJ_lt h.1 h.2.1 h.2.2 ht.1 ht.2.1 ht.2.2
  ·rw [if_neg hb]
   exact h
/-- a multiple, as the program reckons it -/
theorem muS_next {k L j : Nat} {t : T3} (h : j + 1 ≤ L) : muS k t L (L - j) = if k.testBit j then suT (twT (muS k t L (L - (j + 1)))) t else twT (muS k t L (L - (j + 1))) := by
 have e : L - j = (L - (j + 1)) + 1 := by omega
 have e2 : L - (L - (j + 1) + 1) = j := by omega
 rw [e]
 show (if k.testBit (L - (L - (j + 1) + 1)) then _ else _) = _
 rw [e2]
theorem meas_d (j : Nat) : (intOf (.int .i64 ((j : Int) - 1)) + 1).toNat < (intOf (.int .i64 (j : Int)) + 1).toNat := by
 show ((j : Int) - 1 + 1).toNat < ((j : Int) + 1).toNat
 omega
theorem bitI_natp (e i : Nat) : bitI e (i : Int) = e.testBit i := by unfold bitI; simp
noncomputable def muV (k x y : Nat) (f : Bool) : Value := let s := muS k (liJ x y f) (lenN k) (lenN k); flJ s.1 s.2.1 s.2.2
noncomputable def mpV (k x y : Nat) (f : Bool) : Value := if onB x y f then .tuple #[muV k x y f, .nilIface] else .tuple #[ptV 0 0 false, .iface 38 (.int .i64 1)]
set_option maxRecDepth 100000 in
set_option maxHeartbeats 8000000 in
theorem pmul_bad {k x y : Nat} {f : Bool} (hk : k < N256) (h1 : x < N256) (h2 : y < N256) (o1 : onB x y f = false) (w : World) :
  Calls Try.prog 22 #[numV k, ptV x y f] w fun e w' => e = .returned (mpV k x y f) ∧ Below w.heap.size w w' := by
 have hres : mpV k x y f = .tuple #[ptV 0 0 false, .iface 38 (.int .i64 1)] := by unfold mpV; rw [o1]; rfl
 have K1 := Aside0.mk (fun (u : World) => pof_calls u)
 have K2 := Aside0.mk (fun (gf : Nat) (u : World) (h : CFld u gf) => pon_calls h1 h2 f u h)
 rw [hres]
 rw [o1] at K2
 clear hres hk h1 h2 o1
 go_enter Try.func22, Try.ntmps22
 go_upto_region 1 with (fail)
 refine wp_at (w2 := (World.alloc (World.alloc (World.alloc w (.cells (nw k).toArray 24)) (.cells (pw x y f).toArray 26)) (.cells (pw 0 0 false).toArray 26))) rfl ?_
 obtain ⟨x_0, e_0, h_0, b_0, s_0⟩ := new_num w k
 obtain ⟨x_1, e_1, h_1, b_1, s_1⟩ := new_PtAt x_0 x y f
 obtain ⟨x_2, e_2, h_2, b_2, s_2⟩ := new_PtAt x_1 0 0 false
 rw [e_0, e_1, e_2]
 rw [s_0] at h_1 s_1
 rw [s_1] at h_2 s_2
 have HB : Aside0 (Below w.heap.size w x_2) := Aside0.mk (bl_both (bl_both b_0 b_1) b_2)
 have HK1 : Aside0 (NAt x_2 (w.heap.size) k) := Aside0.mk ((h_0.on b_1).on b_2)
 have HA : Aside0 (PtAt x_2 (w.heap.size + 1) x y f) := Aside0.mk (h_1.on b_2)
 have HR : Aside0 (PtAt x_2 (w.heap.size + 1 + 1) 0 0 false) := Aside0.mk h_2
 have HS : Aside0 (w.heap.size + 1 + 1 + 1 ≤ x_2.heap.size) := Aside0.mk (Nat.le_of_eq s_2.symm)
 clear e_0 h_0 b_0 s_0 e_1 h_1 b_1 s_1 e_2 h_2 b_2 s_2
 obtain ⟨w1, hw_⟩ : ∃ x, x = x_2 := ⟨_, rfl⟩
 subst hw_
 clear x_0 x_1
 go_upto_region 2 with (first | ((with_reducible refine gate_dst (N := 10) rfl ?_); refine goesL_ (some 10) rfl rfl Try.func29 (by kernel_rfl) rfl #[] rfl (by (try simp only [List.map_toArray, List.map_cons, List.map_nil]); first | done | rfl) ?_; (with_reducible refine (K1.out _).mono ?_); rintro e u1 ⟨gf, rfl, hF_, hge_, hb_⟩; refine ⟨_, rfl, ?_⟩; have HS0_ := HS; replace HK1 := Aside0.mk (HK1.out.on hb_); replace HA := Aside0.mk (HA.out.on hb_); replace HR := Aside0.mk (HR.out.on hb_); replace HB := Aside0.mk (bl_on HB.out hb_ HB.out.size); replace HS := Aside0.mk (Nat.le_trans HS.out hb_.size); have HF := Aside0.mk hF_; have HXgf : Aside0 (w.heap.size + 1 + 1 + 1 ≤ gf) := Aside0.mk (Nat.le_trans HS0_.out hge_); clear hF_ hge_ HS0_; clear hb_) | ((with_reducible refine gate_dst (N := 6) rfl ?_); refine al_cv rfl _ rfl rfl ?_; intro g6 u2 eg_ hn_ hb_; have HXg6 : Aside0 (w.heap.size + 1 + 1 + 1 ≤ g6 ∧ gf < g6) := Aside0.mk (by rw [eg_]; exact ⟨HS.out, HF.out.size⟩); replace HK1 := Aside0.mk (HK1.out.on hb_); replace HA := Aside0.mk (HA.out.on hb_); replace HR := Aside0.mk (HR.out.on hb_); replace HF := Aside0.mk (HF.out.on hb_); replace HB := Aside0.mk (bl_on HB.out hb_ HB.out.size); replace HS := Aside0.mk (Nat.le_trans HS.out hb_.size); have Hg6 := Aside0.mk hn_; clear hn_ hb_ eg_) | ((with_reducible refine gate_st (y := .tmp 10) rfl ?_); (try simp only [aS]); refine st_cv Hg6.out rfl _ _ rfl rfl rfl ?_; intro u3 hn_ hb_; replace HK1 := Aside0.mk (HK1.out.but hb_ (by have := HXgf.out; have := HXg6.out; omega)); replace HA := Aside0.mk (HA.out.but hb_ (by have := HXgf.out; have := HXg6.out; omega)); replace HR := Aside0.mk (HR.out.but hb_ (by have := HXgf.out; have := HXg6.out; omega)); replace HF := Aside0.mk (HF.out.but hb_ (by have := HXgf.out; have := HXg6.out; omega)); replace Hg6 := Aside0.mk hn_; replace HB := Aside0.mk (bl_but HB.out hb_ HB.out.size (by have := HXgf.out; have := HXg6.out; omega)); replace HS := Aside0.mk (Nat.le_trans HS.out hb_.size); clear hn_ hb_))
 go_upto_region 3 with (first | ((with_reducible refine gate_dst (N := 11) rfl ?_); refine ld_cv Hg6.out rfl _ rfl rfl ?_) | ((with_reducible refine gate_dst (N := 12) rfl ?_); refine ld_pt HA.out rfl _ rfl rfl ?_) | ((with_reducible refine gate_dst (N := 13) rfl ?_); refine goesL_ (some 13) rfl rfl Try.func30 (by kernel_rfl) rfl #[cvV gf, ptV x y f] rfl (by (try simp only [List.map_toArray, List.map_cons, List.map_nil]); first | done | rfl) ?_; (with_reducible refine (K2.out _ _ (HF.out)).mono ?_); rintro e u4 ⟨rfl, hb_⟩; refine ⟨_, rfl, ?_⟩; replace HK1 := Aside0.mk (HK1.out.on hb_); replace HA := Aside0.mk (HA.out.on hb_); replace HR := Aside0.mk (HR.out.on hb_); replace Hg6 := Aside0.mk (Hg6.out.on hb_); replace HF := Aside0.mk (HF.out.on hb_); replace HB := Aside0.mk (bl_on HB.out hb_ HB.out.size); replace HS := Aside0.mk (Nat.le_trans HS.out hb_.size); clear hb_))
 go_wp2_with (first | ((with_reducible refine gate_st (y := .tmp 15) rfl ?_); (try simp only [aS]); refine st_pt (x := 0) (y := 0) (f := false) HR.out rfl _ _ rfl rfl rfl ?_; intro u5 hn_ hb_; replace HK1 := Aside0.mk (HK1.out.but hb_ (by have := HXgf.out; have := HXg6.out; omega)); replace HA := Aside0.mk (HA.out.but hb_ (by have := HXgf.out; have := HXg6.out; omega)); replace Hg6 := Aside0.mk (Hg6.out.but hb_ (by have := HXgf.out; have := HXg6.out; omega)); replace HF := Aside0.mk (HF.out.but hb_ (by have := HXgf.out; have := HXg6.out; omega)); replace HR := Aside0.mk hn_; replace HB := Aside0.mk (bl_but HB.out hb_ HB.out.size (by have := HXgf.out; have := HXg6.out; omega)); replace HS := Aside0.mk (Nat.le_trans HS.out hb_.size); clear hn_ hb_))
 refine bodyPost_ret (v := .tuple #[ptV 0 0 false, .iface 38 (.int .i64 1)]) (results_pt2 rfl rfl rfl HR.out) rfl ⟨rfl, HB.out⟩
set_option maxRecDepth 100000 in
set_option maxHeartbeats 8000000 in
theorem pmul_ok {k x y : Nat} {f : Bool} (hk : k < N256) (h1 : x < N256) (h2 : y < N256) (o1 : onB x y f = true) (w : World) :
  Calls Try.prog 22 #[numV k, ptV x y f] w fun e w' => e = .returned (mpV k x y f) ∧ Below w.heap.size w w' := by
 have hres : mpV k x y f = .tuple #[muV k x y f, .nilIface] := by unfold mpV; rw [o1]; rfl
 obtain ⟨bx, by_⟩ := onB_lt o1
 have la := liJ_lt bx by_ f
 have hmu : muV k x y f = flJ (muS k (liJ x y f) (lenN k) (lenN k)).1 (muS k (liJ x y f) (lenN k) (lenN k)).2.1 (muS k (liJ x y f) (lenN k) (lenN k)).2.2 := rfl
 have KA := fun u => plift_calls x y f u
 generalize liJ x y f = ta at *
 obtain ⟨a1, a2, a3⟩ := ta
 have KA : Aside0 (∀ u, Calls Try.prog 33 #[ptV x y f] u fun e w' => e = .returned (thV a1 a2 a3) ∧ Below u.heap.size u w') := Aside0.mk KA
 have KL := Aside0.mk (fun (u : World) => len_calls (IsNum.mk hk) u)
 have hL := lenN_256b k hk
 obtain ⟨L, eL⟩ : ∃ L, L = lenN k := ⟨_, rfl⟩
 rw [← eL] at KL hL hmu
 have q1 : wrap64 ((L : Int) - 1) = (L : Int) - 1 := by unfold wrap64; omega
 have ls := muS_lt (k := k) la L L
 have KF := fun (gf : Nat) (u : World) (h : CFld u gf) => pflat_calls ls.1 ls.2.1 ls.2.2 u h
 obtain ⟨X, Y, F, ef, bX, bY⟩ := flJ_form (muS k (a1, a2, a3) L L).1 (muS k (a1, a2, a3) L L).2.1 (muS k (a1, a2, a3) L L).2.2
 rw [ef] at hmu KF
 have KF := Aside0.mk KF
 rw [hmu] at hres
 have HLL := Aside0.mk hL
 have HLA := Aside0.mk la
 have KB := Aside0.mk (fun (i : Int) (u : World) => bit_calls (IsNum.mk hk) i u)
 have K1 := Aside0.mk (fun (u : World) => pof_calls u)
 have K2 := Aside0.mk (fun (gf : Nat) (u : World) (h : CFld u gf) => pon_calls h1 h2 f u h)
 rw [hres]
 rw [o1] at K2
 clear hres hk h1 h2 o1 bx by_ la hmu eL ls ef bX bY
 go_enter Try.func22, Try.ntmps22
 go_upto_region 1 with (fail)
 refine wp_at (w2 := (World.alloc (World.alloc (World.alloc w (.cells (nw k).toArray 24)) (.cells (pw x y f).toArray 26)) (.cells (pw 0 0 false).toArray 26))) rfl ?_
 obtain ⟨x_0, e_0, h_0, b_0, s_0⟩ := new_num w k
 obtain ⟨x_1, e_1, h_1, b_1, s_1⟩ := new_PtAt x_0 x y f
 obtain ⟨x_2, e_2, h_2, b_2, s_2⟩ := new_PtAt x_1 0 0 false
 rw [e_0, e_1, e_2]
 rw [s_0] at h_1 s_1
 rw [s_1] at h_2 s_2
 have HB : Aside0 (Below w.heap.size w x_2) := Aside0.mk (bl_both (bl_both b_0 b_1) b_2)
 have HK1 : Aside0 (NAt x_2 (w.heap.size) k) := Aside0.mk ((h_0.on b_1).on b_2)
 have HA : Aside0 (PtAt x_2 (w.heap.size + 1) x y f) := Aside0.mk (h_1.on b_2)
 have HR : Aside0 (PtAt x_2 (w.heap.size + 1 + 1) 0 0 false) := Aside0.mk h_2
 have HS : Aside0 (w.heap.size + 1 + 1 + 1 ≤ x_2.heap.size) := Aside0.mk (Nat.le_of_eq s_2.symm)
 clear e_0 h_0 b_0 s_0 e_1 h_1 b_1 s_1 e_2 h_2 b_2 s_2
 obtain ⟨w1, hw_⟩ : ∃ x, x = x_2 := ⟨_, rfl⟩
 subst hw_
 clear x_0 x_1
 go_upto_region 2 with (first | ((with_reducible refine gate_dst (N := 10) rfl ?_); refine goesL_ (some 10) rfl rfl Try.func29 (by kernel_rfl) rfl #[] rfl (by (try simp only [List.map_toArray, List.map_cons, List.map_nil]); first | done | rfl) ?_; (with_reducible refine (K1.out _).mono ?_); rintro e u6 ⟨gf, rfl, hF_, hge_, hb_⟩; refine ⟨_, rfl, ?_⟩; have HS0_ := HS; replace HK1 := Aside0.mk (HK1.out.on hb_); replace HA := Aside0.mk (HA.out.on hb_); replace HR := Aside0.mk (HR.out.on hb_); replace HB := Aside0.mk (bl_on HB.out hb_ HB.out.size); replace HS := Aside0.mk (Nat.le_trans HS.out hb_.size); have HF := Aside0.mk hF_; have HXgf : Aside0 (w.heap.size + 1 + 1 + 1 ≤ gf) := Aside0.mk (Nat.le_trans HS0_.out hge_); clear hF_ hge_ HS0_; clear hb_) | ((with_reducible refine gate_dst (N := 6) rfl ?_); refine al_cv rfl _ rfl rfl ?_; intro g6 u7 eg_ hn_ hb_; have HXg6 : Aside0 (w.heap.size + 1 + 1 + 1 ≤ g6 ∧ gf < g6) := Aside0.mk (by rw [eg_]; exact ⟨HS.out, HF.out.size⟩); replace HK1 := Aside0.mk (HK1.out.on hb_); replace HA := Aside0.mk (HA.out.on hb_); replace HR := Aside0.mk (HR.out.on hb_); replace HF := Aside0.mk (HF.out.on hb_); replace HB := Aside0.mk (bl_on HB.out hb_ HB.out.size); replace HS := Aside0.mk (Nat.le_trans HS.out hb_.size); have Hg6 := Aside0.mk hn_; clear hn_ hb_ eg_) | ((with_reducible refine gate_st (y := .tmp 10) rfl ?_); (try simp only [aS]); refine st_cv Hg6.out rfl _ _ rfl rfl rfl ?_; intro u8 hn_ hb_; replace HK1 := Aside0.mk (HK1.out.but hb_ (by have := HXgf.out; have := HXg6.out; omega)); replace HA := Aside0.mk (HA.out.but hb_ (by have := HXgf.out; have := HXg6.out; omega)); replace HR := Aside0.mk (HR.out.but hb_ (by have := HXgf.out; have := HXg6.out; omega)); replace HF := Aside0.mk (HF.out.but hb_ (by have := HXgf.out; have := HXg6.out; omega)); replace Hg6 := Aside0.mk hn_; replace HB := Aside0.mk (bl_but HB.out hb_ HB.out.size (by have := HXgf.out; have := HXg6.out; omega)); replace HS := Aside0.mk (Nat.le_trans HS.out hb_.size); clear hn_ hb_))
 go_upto_region 4 with (first | ((with_reducible refine gate_dst (N := 11) rfl ?_); refine ld_cv Hg6.out rfl _ rfl rfl ?_) | ((with_reducible refine gate_dst (N := 12) rfl ?_); refine ld_pt HA.out rfl _ rfl rfl ?_) | ((with_reducible refine gate_dst (N := 13) rfl ?_); refine goesL_ (some 13) rfl rfl Try.func30 (by kernel_rfl) rfl #[cvV gf, ptV x y f] rfl (by (try simp only [List.map_toArray, List.map_cons, List.map_nil]); first | done | rfl) ?_; (with_reducible refine (K2.out _ _ (HF.out)).mono ?_); rintro e u9 ⟨rfl, hb_⟩; refine ⟨_, rfl, ?_⟩; replace HK1 := Aside0.mk (HK1.out.on hb_); replace HA := Aside0.mk (HA.out.on hb_); replace HR := Aside0.mk (HR.out.on hb_); replace Hg6 := Aside0.mk (Hg6.out.on hb_); replace HF := Aside0.mk (HF.out.on hb_); replace HB := Aside0.mk (bl_on HB.out hb_ HB.out.size); replace HS := Aside0.mk (Nat.le_trans HS.out hb_.size); clear hb_))
 go_upto_region 5 with (first | ((with_reducible refine gate_dst (N := 7) rfl ?_); refine al_th rfl _ rfl rfl ?_; intro g7 u10 eg_ hn_ hb_; have HXg7 : Aside0 (w.heap.size + 1 + 1 + 1 ≤ g7 ∧ gf < g7 ∧ g6 < g7) := Aside0.mk (by rw [eg_]; exact ⟨HS.out, HF.out.size, Hg6.out.size⟩); replace HK1 := Aside0.mk (HK1.out.on hb_); replace HA := Aside0.mk (HA.out.on hb_); replace HR := Aside0.mk (HR.out.on hb_); replace Hg6 := Aside0.mk (Hg6.out.on hb_); replace HF := Aside0.mk (HF.out.on hb_); replace HB := Aside0.mk (bl_on HB.out hb_ HB.out.size); replace HS := Aside0.mk (Nat.le_trans HS.out hb_.size); have Hg7 := Aside0.mk hn_; clear hn_ hb_ eg_))
 go_upto_region 6 with (first | ((with_reducible refine gate_dst (N := 17) rfl ?_); refine ld_pt HA.out rfl _ rfl rfl ?_) | ((with_reducible refine gate_dst (N := 18) rfl ?_); refine goesL_ (some 18) rfl rfl Try.func33 (by kernel_rfl) rfl #[ptV x y f] rfl (by (try simp only [List.map_toArray, List.map_cons, List.map_nil]); first | done | rfl) ?_; (with_reducible refine (KA.out _).mono ?_); rintro e u11 ⟨rfl, hb_⟩; refine ⟨_, rfl, ?_⟩; replace HK1 := Aside0.mk (HK1.out.on hb_); replace HA := Aside0.mk (HA.out.on hb_); replace HR := Aside0.mk (HR.out.on hb_); replace Hg6 := Aside0.mk (Hg6.out.on hb_); replace Hg7 := Aside0.mk (Hg7.out.on hb_); replace HF := Aside0.mk (HF.out.on hb_); replace HB := Aside0.mk (bl_on HB.out hb_ HB.out.size); replace HS := Aside0.mk (Nat.le_trans HS.out hb_.size); clear hb_) | ((with_reducible refine gate_dst (N := 8) rfl ?_); refine al_th rfl _ rfl rfl ?_; intro g8 u12 eg_ hn_ hb_; have HXg8 : Aside0 (w.heap.size + 1 + 1 + 1 ≤ g8 ∧ gf < g8 ∧ g6 < g8 ∧ g7 < g8) := Aside0.mk (by rw [eg_]; exact ⟨HS.out, HF.out.size, Hg6.out.size, Hg7.out.size⟩); replace HK1 := Aside0.mk (HK1.out.on hb_); replace HA := Aside0.mk (HA.out.on hb_); replace HR := Aside0.mk (HR.out.on hb_); replace Hg6 := Aside0.mk (Hg6.out.on hb_); replace Hg7 := Aside0.mk (Hg7.out.on hb_); replace HF := Aside0.mk (HF.out.on hb_); replace HB := Aside0.mk (bl_on HB.out hb_ HB.out.size); replace HS := Aside0.mk (Nat.le_trans HS.out hb_.size); have Hg8 := Aside0.mk hn_; clear hn_ hb_ eg_) | ((with_reducible refine gate_st (y := .tmp 18) rfl ?_); (try simp only [aS]); refine st_th (x := a1) (y := a2) (z := a3) Hg8.out rfl _ _ rfl rfl rfl ?_; intro u13 hn_ hb_; replace HK1 := Aside0.mk (HK1.out.but hb_ (by have := HXgf.out; have := HXg6.out; have := HXg7.out; have := HXg8.out; omega)); replace HA := Aside0.mk (HA.out.but hb_ (by have := HXgf.out; have := HXg6.out; have := HXg7.out; have := HXg8.out; omega)); replace HR := Aside0.mk (HR.out.but hb_ (by have := HXgf.out; have := HXg6.out; have := HXg7.out; have := HXg8.out; omega)); replace Hg6 := Aside0.mk (Hg6.out.but hb_ (by have := HXgf.out; have := HXg6.out; have := HXg7.out; have := HXg8.out; omega)); replace Hg7 := Aside0.mk (Hg7.out.but hb_ (by have := HXgf.out; have := HXg6.out; have := HXg7.out; have := HXg8.out; omega)); replace HF := Aside0.mk (HF.out.but hb_ (by have := HXgf.out; have := HXg6.out; have := HXg7.out; have := HXg8.out; omega)); replace Hg8 := Aside0.mk hn_; replace HB := Aside0.mk (bl_but HB.out hb_ HB.out.size (by have := HXgf.out; have := HXg6.out; have := HXg7.out; have := HXg8.out; omega)); replace HS := Aside0.mk (Nat.le_trans HS.out hb_.size); clear hn_ hb_))
 go_wp2_with (first | ((with_reducible refine gate_dst (N := 19) rfl ?_); refine ld_num (HK1.out.range) rfl _ rfl rfl ?_) | ((with_reducible refine gate_dst (N := 20) rfl ?_); refine goesL_ (some 20) rfl rfl Try.func40 (by kernel_rfl) rfl #[numV k] rfl (by (try simp only [List.map_toArray, List.map_cons, List.map_nil]); first | done | rfl) ?_; (with_reducible refine (KL.out _).mono ?_); rintro e u14 ⟨rfl, hb_⟩; refine ⟨_, rfl, ?_⟩; replace HK1 := Aside0.mk (HK1.out.on hb_); replace HA := Aside0.mk (HA.out.on hb_); replace HR := Aside0.mk (HR.out.on hb_); replace Hg6 := Aside0.mk (Hg6.out.on hb_); replace Hg7 := Aside0.mk (Hg7.out.on hb_); replace Hg8 := Aside0.mk (Hg8.out.on hb_); replace HF := Aside0.mk (HF.out.on hb_); replace HB := Aside0.mk (bl_on HB.out hb_ HB.out.size); replace HS := Aside0.mk (Nat.le_trans HS.out hb_.size); clear hb_))
 go_loopw [9] (fun v wr => ∃ m : Nat, m ≤ L ∧ v = .int .i64 ((m : Int) - 1) ∧ Aside0 (ThAt wr g7 (muS k (a1, a2, a3) L (L - m)).1 (muS k (a1, a2, a3) L (L - m)).2.1 (muS k (a1, a2, a3) L (L - m)).2.2) ∧ Aside0 (NAt wr (w.heap.size) k) ∧ Aside0 (PtAt wr (w.heap.size + 1) x y f) ∧ Aside0 (PtAt wr (w.heap.size + 1 + 1) 0 0 false) ∧ Aside0 (CvAt wr (g6) gf) ∧ Aside0 (ThAt wr (g8) a1 a2 a3) ∧ Aside0 (CFld wr gf) ∧ Aside0 (Below w.heap.size w wr) ∧ Aside0 (w.heap.size + 1 + 1 + 1 ≤ wr.heap.size))
  (fun v _ => (intOf v + 1).toNat)
 case atStart => exact ⟨L, Nat.le_refl _, rfl, Aside0.mk (by rw [Nat.sub_self]; exact Hg7.out), HK1, HA, HR, Hg6, Hg8, HF, HB, HS⟩
 case round =>
  clear Hg7 HK1 HA HR Hg6 Hg8 HF HB HS
  obtain ⟨m, hm, rfl, Hg7, HK1, HA, HR, Hg6, Hg8, HF, HB, HS⟩ := hrel
  cases m with
  | zero =>
   have t1 : ¬ (0 : Int) ≤ ((0 : Nat) : Int) - 1 := by decide
   rw [Nat.sub_zero] at Hg7
   clear hm
   go_upto_region 12 with (fail)
   go_wp2_with (first | ((with_reducible refine gate_dst (N := 36) rfl ?_); refine ld_cv Hg6.out rfl _ rfl rfl ?_) | ((with_reducible refine gate_dst (N := 37) rfl ?_); refine ld_th Hg7.out rfl _ rfl rfl ?_) | ((with_reducible refine gate_dst (N := 38) rfl ?_); refine goesL_ (some 38) rfl rfl Try.func31 (by kernel_rfl) rfl #[cvV gf, thV ((muS k (a1, a2, a3) L L).1) ((muS k (a1, a2, a3) L L).2.1) ((muS k (a1, a2, a3) L L).2.2)] rfl (by (try simp only [List.map_toArray, List.map_cons, List.map_nil]); first | done | rfl) ?_; (with_reducible refine (KF.out _ _ (HF.out)).mono ?_); rintro e u15 ⟨rfl, hb_⟩; refine ⟨_, rfl, ?_⟩; replace HK1 := Aside0.mk (HK1.out.on hb_); replace HA := Aside0.mk (HA.out.on hb_); replace HR := Aside0.mk (HR.out.on hb_); replace Hg6 := Aside0.mk (Hg6.out.on hb_); replace Hg7 := Aside0.mk (Hg7.out.on hb_); replace Hg8 := Aside0.mk (Hg8.out.on hb_); replace HF := Aside0.mk (HF.out.on hb_); replace HB := Aside0.mk (bl_on HB.out hb_ HB.out.size); replace HS := Aside0.mk (Nat.le_trans HS.out hb_.size); clear hb_) | ((with_reducible refine gate_st (y := .tmp 38) rfl ?_); (try simp only [aS]); refine st_pt (x := X) (y := Y) (f := F) HR.out rfl _ _ rfl rfl rfl ?_; intro u16 hn_ hb_; replace HK1 := Aside0.mk (HK1.out.but hb_ (by have := HXgf.out; have := HXg6.out; have := HXg7.out; have := HXg8.out; omega)); replace HA := Aside0.mk (HA.out.but hb_ (by have := HXgf.out; have := HXg6.out; have := HXg7.out; have := HXg8.out; omega)); replace Hg6 := Aside0.mk (Hg6.out.but hb_ (by have := HXgf.out; have := HXg6.out; have := HXg7.out; have := HXg8.out; omega)); replace Hg7 := Aside0.mk (Hg7.out.but hb_ (by have := HXgf.out; have := HXg6.out; have := HXg7.out; have := HXg8.out; omega)); replace Hg8 := Aside0.mk (Hg8.out.but hb_ (by have := HXgf.out; have := HXg6.out; have := HXg7.out; have := HXg8.out; omega)); replace HF := Aside0.mk (HF.out.but hb_ (by have := HXgf.out; have := HXg6.out; have := HXg7.out; have := HXg8.out; omega)); replace HR := Aside0.mk hn_; replace HB := Aside0.mk (bl_but HB.out hb_ HB.out.size (by have := HXgf.out; have := HXg6.out; have := HXg7.out; have := HXg8.out; omega)); replace HS := Aside0.mk (Nat.le_trans HS.out hb_.size); clear hn_ hb_))
   refine bodyPost_ret (v := .tuple #[ptV X Y F, .nilIface]) (results_pt2 rfl rfl rfl HR.out) rfl ⟨rfl, HB.out⟩
  | succ j =>
   have t2 : ((j + 1 : Nat) : Int) - 1 = (j : Int) := by omega
   rw [t2]
   have t1 : (0 : Int) ≤ (j : Int) := by omega
   have q2 : wrap64 ((j : Int) - 1) = (j : Int) - 1 := by have := HLL.out; unfold wrap64; omega
   have nx := muS_next (k := k) (t := (a1, a2, a3)) hm
   have HJ := Aside0.mk hm
   have lsj := muS_lt (k := k) (show Lt3 (a1, a2, a3) from HLA.out) L (L - (j + 1))
   obtain ⟨s, es⟩ : ∃ s, s = muS k (a1, a2, a3) L (L - (j + 1)) := ⟨_, rfl⟩
   rw [← es] at Hg7 lsj nx
   obtain ⟨s1, s2, s3⟩ := s
   have KT := fun (gf : Nat) (u : World) (h : CFld u gf) => ptwice_calls lsj.1 lsj.2.1 lsj.2.2 u h
   have ld := twJ_lt s1 s2 s3
   have nx : muS k (a1, a2, a3) L (L - j) = if k.testBit j then suT (twJ s1 s2 s3) (a1, a2, a3) else twJ s1 s2 s3 := nx
   dsimp only at KT
   generalize twJ s1 s2 s3 = d at *
   obtain ⟨d1, d2, d3⟩ := d
   have KT : Aside0 (∀ gf u, CFld u gf → Calls Try.prog 41 #[cvV gf, thV s1 s2 s3] u fun e w' => e = .returned (thV d1 d2 d3) ∧ Below u.heap.size u w') := Aside0.mk KT
   have KS := fun (gf : Nat) (u : World) (h : CFld u gf) => psum_calls ld.1 ld.2.1 ld.2.2 HLA.out.1 HLA.out.2.1 HLA.out.2.2 u h
   have nx : muS k (a1, a2, a3) L (L - j) = if k.testBit j then suJ d1 d2 d3 a1 a2 a3 else (d1, d2, d3) := nx
   dsimp only at KS
   generalize suJ d1 d2 d3 a1 a2 a3 = e at *
   obtain ⟨e1, e2, e3⟩ := e
   have KS : Aside0 (∀ gf u, CFld u gf → Calls Try.prog 32 #[cvV gf, thV d1 d2 d3, thV a1 a2 a3] u fun e w' => e = .returned (thV e1 e2 e3) ∧ Below u.heap.size u w') := Aside0.mk KS
   have KBj := fun u => KB.out (j : Int) u
   rw [bitI_natp] at KBj
   have KBj := Aside0.mk KBj
   clear lsj ld es t2 hm
   cases hb : k.testBit j
   ·skip
    rw [hb] at KBj nx
    clear hb
    go_upto_region 10 with (first | ((with_reducible refine gate_dst (N := 26) rfl ?_); refine ld_cv Hg6.out rfl _ rfl rfl ?_) | ((with_reducible refine gate_dst (N := 27) rfl ?_); refine ld_th Hg7.out rfl _ rfl rfl ?_) | ((with_reducible refine gate_dst (N := 28) rfl ?_); refine goesL_ (some 28) rfl rfl Try.func41 (by kernel_rfl) rfl #[cvV gf, thV s1 s2 s3] rfl (by (try simp only [List.map_toArray, List.map_cons, List.map_nil]); first | done | rfl) ?_; (with_reducible refine (KT.out _ _ (HF.out)).mono ?_); rintro e u17 ⟨rfl, hb_⟩; refine ⟨_, rfl, ?_⟩; replace HK1 := Aside0.mk (HK1.out.on hb_); replace HA := Aside0.mk (HA.out.on hb_); replace HR := Aside0.mk (HR.out.on hb_); replace Hg6 := Aside0.mk (Hg6.out.on hb_); replace Hg7 := Aside0.mk (Hg7.out.on hb_); replace Hg8 := Aside0.mk (Hg8.out.on hb_); replace HF := Aside0.mk (HF.out.on hb_); replace HB := Aside0.mk (bl_on HB.out hb_ HB.out.size); replace HS := Aside0.mk (Nat.le_trans HS.out hb_.size); clear hb_) | ((with_reducible refine gate_st (y := .tmp 28) rfl ?_); (try simp only [aS]); refine st_th (x := d1) (y := d2) (z := d3) Hg7.out rfl _ _ rfl rfl rfl ?_; intro u18 hn_ hb_; replace HK1 := Aside0.mk (HK1.out.but hb_ (by have := HXgf.out; have := HXg6.out; have := HXg7.out; have := HXg8.out; omega)); replace HA := Aside0.mk (HA.out.but hb_ (by have := HXgf.out; have := HXg6.out; have := HXg7.out; have := HXg8.out; omega)); replace HR := Aside0.mk (HR.out.but hb_ (by have := HXgf.out; have := HXg6.out; have := HXg7.out; have := HXg8.out; omega)); replace Hg6 := Aside0.mk (Hg6.out.but hb_ (by have := HXgf.out; have := HXg6.out; have := HXg7.out; have := HXg8.out; omega)); replace Hg8 := Aside0.mk (Hg8.out.but hb_ (by have := HXgf.out; have := HXg6.out; have := HXg7.out; have := HXg8.out; omega)); replace HF := Aside0.mk (HF.out.but hb_ (by have := HXgf.out; have := HXg6.out; have := HXg7.out; have := HXg8.out; omega)); replace Hg7 := Aside0.mk hn_; replace HB := Aside0.mk (bl_but HB.out hb_ HB.out.size (by have := HXgf.out; have := HXg6.out; have := HXg7.out; have := HXg8.out; omega)); replace HS := Aside0.mk (Nat.le_trans HS.out hb_.size); clear hn_ hb_))
    go_wp2_with (first | ((with_reducible refine gate_dst (N := 29) rfl ?_); refine ld_num (HK1.out.range) rfl _ rfl rfl ?_) | ((with_reducible refine gate_dst (N := 31) rfl ?_); refine goesL_ (some 31) rfl rfl Try.func42 (by kernel_rfl) rfl #[numV k, .int .i64 (j : Int)] rfl (by (try simp only [List.map_toArray, List.map_cons, List.map_nil]); first | done | rfl) ?_; (with_reducible refine (KBj.out _).mono ?_); rintro e u19 ⟨rfl, hb_⟩; refine ⟨_, rfl, ?_⟩; replace HK1 := Aside0.mk (HK1.out.on hb_); replace HA := Aside0.mk (HA.out.on hb_); replace HR := Aside0.mk (HR.out.on hb_); replace Hg6 := Aside0.mk (Hg6.out.on hb_); replace Hg7 := Aside0.mk (Hg7.out.on hb_); replace Hg8 := Aside0.mk (Hg8.out.on hb_); replace HF := Aside0.mk (HF.out.on hb_); replace HB := Aside0.mk (bl_on HB.out hb_ HB.out.size); replace HS := Aside0.mk (Nat.le_trans HS.out hb_.size); clear hb_))
    rw [q2]
    exact ⟨⟨j, by have := HJ.out; omega, rfl, Aside0.mk (by rw [nx]; exact Hg7.out), HK1, HA, HR, Hg6, Hg8, HF, HB, HS⟩, meas_d j⟩
   ·skip
    rw [hb] at KBj nx
    clear hb
    go_upto_region 10 with (first | ((with_reducible refine gate_dst (N := 26) rfl ?_); refine ld_cv Hg6.out rfl _ rfl rfl ?_) | ((with_reducible refine gate_dst (N := 27) rfl ?_); refine ld_th Hg7.out rfl _ rfl rfl ?_) | ((with_reducible refine gate_dst (N := 28) rfl ?_); refine goesL_ (some 28) rfl rfl Try.func41 (by kernel_rfl) rfl #[cvV gf, thV s1 s2 s3] rfl (by (try simp only [List.map_toArray, List.map_cons, List.map_nil]); first | done | rfl) ?_; (with_reducible refine (KT.out _ _ (HF.out)).mono ?_); rintro e u20 ⟨rfl, hb_⟩; refine ⟨_, rfl, ?_⟩; replace HK1 := Aside0.mk (HK1.out.on hb_); replace HA := Aside0.mk (HA.out.on hb_); replace HR := Aside0.mk (HR.out.on hb_); replace Hg6 := Aside0.mk (Hg6.out.on hb_); replace Hg7 := Aside0.mk (Hg7.out.on hb_); replace Hg8 := Aside0.mk (Hg8.out.on hb_); replace HF := Aside0.mk (HF.out.on hb_); replace HB := Aside0.mk (bl_on HB.out hb_ HB.out.size); replace HS := Aside0.mk (Nat.le_trans HS.out hb_.size); clear hb_) | ((with_reducible refine gate_st (y := .tmp 28) rfl ?_); (try simp only [aS]); refine st_th (x := d1) (y := d2) (z := d3) Hg7.out rfl _ _ rfl rfl rfl ?_; intro u21 hn_ hb_; replace HK1 := Aside0.mk (HK1.out.but hb_ (by have := HXgf.out; have := HXg6.out; have := HXg7.out; have := HXg8.out; omega)); replace HA := Aside0.mk (HA.out.but hb_ (by have := HXgf.out; have := HXg6.out; have := HXg7.out; have := HXg8.out; omega)); replace HR := Aside0.mk (HR.out.but hb_ (by have := HXgf.out; have := HXg6.out; have := HXg7.out; have := HXg8.out; omega)); replace Hg6 := Aside0.mk (Hg6.out.but hb_ (by have := HXgf.out; have := HXg6.out; have := HXg7.out; have := HXg8.out; omega)); replace Hg8 := Aside0.mk (Hg8.out.but hb_ (by have := HXgf.out; have := HXg6.out; have := HXg7.out; have := HXg8.out; omega)); replace HF := Aside0.mk (HF.out.but hb_ (by have := HXgf.out; have := HXg6.out; have := HXg7.out; have := HXg8.out; omega)); replace Hg7 := Aside0.mk hn_; replace HB := Aside0.mk (bl_but HB.out hb_ HB.out.size (by have := HXgf.out; have := HXg6.out; have := HXg7.out; have := HXg8.out; omega)); replace HS := Aside0.mk (Nat.le_trans HS.out hb_.size); clear hn_ hb_))
    go_upto_region 11 with (first | ((with_reducible refine gate_dst (N := 29) rfl ?_); refine ld_num (HK1.out.range) rfl _ rfl rfl ?_) | ((with_reducible refine gate_dst (N := 31) rfl ?_); refine goesL_ (some 31) rfl rfl Try.func42 (by kernel_rfl) rfl #[numV k, .int .i64 (j : Int)] rfl (by (try simp only [List.map_toArray, List.map_cons, List.map_nil]); first | done | rfl) ?_; (with_reducible refine (KBj.out _).mono ?_); rintro e u22 ⟨rfl, hb_⟩; refine ⟨_, rfl, ?_⟩; replace HK1 := Aside0.mk (HK1.out.on hb_); replace HA := Aside0.mk (HA.out.on hb_); replace HR := Aside0.mk (HR.out.on hb_); replace Hg6 := Aside0.mk (Hg6.out.on hb_); replace Hg7 := Aside0.mk (Hg7.out.on hb_); replace Hg8 := Aside0.mk (Hg8.out.on hb_); replace HF := Aside0.mk (HF.out.on hb_); replace HB := Aside0.mk (bl_on HB.out hb_ HB.out.size); replace HS := Aside0.mk (Nat.le_trans HS.out hb_.size); clear hb_))
    go_wp2_with (first | ((with_reducible refine gate_dst (N := 32) rfl ?_); refine ld_cv Hg6.out rfl _ rfl rfl ?_) | ((with_reducible refine gate_dst (N := 33) rfl ?_); refine ld_th Hg7.out rfl _ rfl rfl ?_) | ((with_reducible refine gate_dst (N := 34) rfl ?_); refine ld_th Hg8.out rfl _ rfl rfl ?_) | ((with_reducible refine gate_dst (N := 35) rfl ?_); refine goesL_ (some 35) rfl rfl Try.func32 (by kernel_rfl) rfl #[cvV gf, thV d1 d2 d3, thV a1 a2 a3] rfl (by (try simp only [List.map_toArray, List.map_cons, List.map_nil]); first | done | rfl) ?_; (with_reducible refine (KS.out _ _ (HF.out)).mono ?_); rintro e u23 ⟨rfl, hb_⟩; refine ⟨_, rfl, ?_⟩; replace HK1 := Aside0.mk (HK1.out.on hb_); replace HA := Aside0.mk (HA.out.on hb_); replace HR := Aside0.mk (HR.out.on hb_); replace Hg6 := Aside0.mk (Hg6.out.on hb_); replace Hg7 := Aside0.mk (Hg7.out.on hb_); replace Hg8 := Aside0.mk (Hg8.out.on hb_); replace HF := Aside0.mk (HF.out.on hb_); replace HB := Aside0.mk (bl_on HB.out hb_ HB.out.size); replace HS := Aside0.mk (Nat.le_trans HS.out hb_.size); clear hb_) | ((with_reducible refine gate_st (y := .tmp 35) rfl ?_); (try simp only [aS]); refine st_th (x := e1) (y := e2) (z := e3) Hg7.out rfl _ _ rfl rfl rfl ?_; intro u24 hn_ hb_; replace HK1 := Aside0.mk (HK1.out.but hb_ (by have := HXgf.out; have := HXg6.out; have := HXg7.out; have := HXg8.out; omega)); replace HA := Aside0.mk (HA.out.but hb_ (by have := HXgf.out; have := HXg6.out; have := HXg7.out; have := HXg8.out; omega)); replace HR := Aside0.mk (HR.out.but hb_ (by have := HXgf.out; have := HXg6.out; have := HXg7.out; have := HXg8.out; omega)); replace Hg6 := Aside0.mk (Hg6.out.but hb_ (by have := HXgf.out; have := HXg6.out; have := HXg7.out; have := HXg8.out; omega)); replace Hg8 := Aside0.mk (Hg8.out.but hb_ (by have := HXgf.out; have := HXg6.out; have := HXg7.out; have := HXg8.out; omega)); replace HF := Aside0.mk (HF.out.but hb_ (by have := HXgf.out; have := HXg6.out; have := HXg7.out; have := HXg8.out; omega)); replace Hg7 := Aside0.mk hn_; replace HB := Aside0.mk (bl_but HB.out hb_ HB.out.size (by have := HXgf.out; have := HXg6.out; have := HXg7.out; have := HXg8.out; omega)); replace HS := Aside0.mk (Nat.le_trans HS.out hb_.size); clear hn_ hb_))
    rw [q2]
    exact ⟨⟨j, by have := HJ.out; omega, rfl, Aside0.mk (by rw [nx]; exact Hg7.out), HK1, HA, HR, Hg6, Hg8, HF, HB, HS⟩, meas_d j⟩
theorem pMul_calls {k x y : Nat} {f : Bool} (hk : k < N256) (h1 : x < N256) (h2 : y < N256) (w : World) :
  Calls Try.prog 22 #[numV k, ptV x y f] w fun e w' => e = .returned (mpV k x y f) ∧ Below w.heap.size w w' := by
 cases o1 : onB x y f
 ·exact pmul_bad hk h1 h2 o1 w
 ·exact pmul_ok hk h1 h2 o1 w
end Go.Proofs.Ytkfjhndofbmhoaa
namespace Go.Proofs.Ytkfjhndofbmhoaa
open Go.RowKit Go.Proofs.Ytkfjhndofbmhoaa.Arr Go.Proofs.YtkfjhndofbmhoaaW.PrintWords Go.Proofs.YtkfjhndofbmhoaaW.PrintLast Go.Proofs.YtkfjhndofbmhoaaW.PrintMore
set_option linter.unusedVariables false
set_option linter.unusedSimpArgs false
theorem lit_gX : Value.agg #[.int .u64 17627433388654248598, .int .u64 8575836109218198432, .int .u64 17923454489921339634, .int .u64 7716867327612699207] = numV gX := num_lit gX 17627433388654248598 8575836109218198432 17923454489921339634 7716867327612699207 (by decide +kernel)
theorem lit_gY : Value.agg #[.int .u64 14678990851816772085, .int .u64 3156516839386865358, .int .u64 10297457778147434006, .int .u64 5756518291402817435] = numV gY := num_lit gY 14678990851816772085 3156516839386865358 10297457778147434006 5756518291402817435 (by decide +kernel)
theorem bt_c (x y z t : Int) : Try.prog.built 24 [(0, .int .u64 x), (1, .int .u64 y), (2, .int .u64 z), (3, .int .u64 t)] = some #[.int .u64 x, .int .u64 y, .int .u64 z, .int .u64 t] := by kernel_rfl
theorem bd_c {ops : Array Oper} {rest : List Oper} {op : Oper} {a : Act} {w : World} {Q : Exit → Act → World → Prop} {x y z t : Int} {n : Nat} (hgd : op.guard = none) (d : Option Tmp) (hd : op.dst = d) (ho : op.op = .build 24 #[(0, .const (.int .u64 x)), (1, .const (.int .u64 y)), (2, .const (.int .u64 z)), (3, .const (.int .u64 t))]) (e : Value.agg #[.int .u64 x, .int .u64 y, .int .u64 z, .int .u64 t] = numV n)
  (k : wpList Try.prog ops Q rest (a.put d (numV n)) w) : wpList Try.prog ops Q (op :: rest) a w := by
 rw [← e] at k
 refine Go.Great.wpList_runTo hgd d hd _ w ?_ k
 unfold execOp
 rw [ho]
 have h := run_build w 24 #[(0, .int .u64 x), (1, .int .u64 y), (2, .int .u64 z), (3, .int .u64 t)] _ (bt_c x y z t)
 simp only [List.map_toArray, List.map_cons, List.map_nil, Act.eval, Sem.run_bind, h, Result.andThen_ok]
 rfl
set_option maxRecDepth 100000 in
set_option maxHeartbeats 8000000 in
theorem pbase_calls (w : World) :
  Calls Try.prog 18 #[] w fun e w' => e = .returned (ptV gX gY false) ∧ Below w.heap.size w w' := by
 go_enter Try.func18, Try.ntmps18
 go_upto_region 1 with (fail)
 refine wp_at (w2 := (World.alloc w (.cells (pw 0 0 false).toArray 26))) rfl ?_
 obtain ⟨x_0, e_0, h_0, b_0, s_0⟩ := new_PtAt w 0 0 false
 rw [e_0]
 have HB : Aside0 (Below w.heap.size w x_0) := Aside0.mk b_0
 have HR : Aside0 (PtAt x_0 (w.heap.size) 0 0 false) := Aside0.mk h_0
 have HS : Aside0 (w.heap.size + 1 ≤ x_0.heap.size) := Aside0.mk (Nat.le_of_eq s_0.symm)
 clear e_0 h_0 b_0 s_0
 obtain ⟨w1, hw_⟩ : ∃ x, x = x_0 := ⟨_, rfl⟩
 subst hw_
 go_wp2_with (first | ((with_reducible refine gate_dst (N := 1) rfl ?_); refine bd_c rfl _ rfl rfl lit_gX ?_) | ((with_reducible refine gate_dst (N := 2) rfl ?_); refine bd_c rfl _ rfl rfl lit_gY ?_) | ((with_reducible refine gate_dst (N := 3) rfl ?_); refine bd_pt (p := gX) (q := gY) rfl _ rfl (.tmp 1) (.tmp 2) rfl rfl rfl ?_) | ((with_reducible refine gate_st (y := .tmp 3) rfl ?_); (try simp only [aS]); refine st_pt (x := gX) (y := gY) (f := false) HR.out rfl _ _ rfl rfl rfl ?_; intro u1 hn_ hb_; replace HR := Aside0.mk hn_; replace HB := Aside0.mk (bl_but HB.out hb_ HB.out.size (by omega)); replace HS := Aside0.mk (Nat.le_trans HS.out hb_.size); clear hn_ hb_))
 exact bodyPost_ret (v := ptV gX gY false) (results_pt rfl rfl HR.out) rfl ⟨rfl, HB.out⟩
end Go.Proofs.Ytkfjhndofbmhoaa
namespace Go.Proofs.Ytkfjhndofbmhoaa
open Go.RowKit Go.Proofs.Ytkfjhndofbmhoaa.Arr Go.Proofs.YtkfjhndofbmhoaaW.PrintWords Go.Proofs.YtkfjhndofbmhoaaW.PrintLast Go.Proofs.YtkfjhndofbmhoaaW.PrintMore
attribute [local go_sem high] eqg_num eqg_num0
set_option linter.unusedVariables false
set_option linter.unusedSimpArgs false
def gZ : Nat := msp 0 gY
theorem gX_N : gX < N256 := lt_N gX_lt
theorem gY_N : gY < N256 := lt_N gY_lt
theorem gZ_N : gZ < N256 := lt_N (mod_p _)
theorem on_g : onB gX gY false = true := by decide +kernel
theorem on_gz : onB gX gZ false = true := by decide +kernel
theorem on_0 : onB 0 0 false = false := by decide +kernel
theorem on_base (w : World) : Calls Try.prog 10 #[ptV gX gY false] w fun e w' => e = .returned (.bool true) ∧ Below w.heap.size w w' := by
 have h := pOn_calls gX_N gY_N false w
 rw [on_g] at h
 exact h
theorem on_zero (w : World) : Calls Try.prog 10 #[ptV 0 0 false] w fun e w' => e = .returned (.bool false) ∧ Below w.heap.size w w' := by
 have h := pOn_calls N256_pos N256_pos false w
 rw [on_0] at h
 exact h
theorem neg_base (w : World) : Calls Try.prog 12 #[ptV gX gY false] w fun e w' => e = .returned (.tuple #[ptV gX gZ false, .nilIface]) ∧ Below w.heap.size w w' := by
 have h := pNeg_calls false gX_N gY_N w
 have e : ngV gX gY false = .tuple #[ptV gX gZ false, .nilIface] := by
  unfold ngV
  rw [on_g]
  rfl
 rw [e] at h
 exact h
theorem flJ_far (x y : Nat) : flJ x y 0 = ptV 0 0 true := by
 have h : invO pP 0 = none := by
  cases h : invO pP 0 with
  | none => rfl
  | some v =>
   have := (invO_spec h).2
   rw [Nat.zero_mul, Nat.zero_mod] at this
   cases this
 unfold flJ
 rw [h]
theorem sum_base : suJ gX gY 1 gX gZ 1 = (0, 0, 0) := by decide +kernel
theorem add_base (w : World) : Calls Try.prog 11 #[ptV gX gY false, ptV gX gZ false] w fun e w' => e = .returned (.tuple #[ptV 0 0 true, .nilIface]) ∧ Below w.heap.size w w' := by
 have h := pAdd_calls (f1 := false) (f2 := false) gX_N gY_N gX_N gZ_N w
 have ea : adV gX gY false gX gZ false = ptV 0 0 true := by
  have e1 : adV gX gY false gX gZ false = flJ (suJ gX gY 1 gX gZ 1).1 (suJ gX gY 1 gX gZ 1).2.1 (suJ gX gY 1 gX gZ 1).2.2 := rfl
  rw [e1, sum_base]
  exact flJ_far 0 0
 have e : apV gX gY false gX gZ false = .tuple #[ptV 0 0 true, .nilIface] := by
  unfold apV
  rw [on_g, on_gz, ea]
  rfl
 rw [e] at h
 exact h
set_option maxRecDepth 100000 in
set_option maxHeartbeats 8000000 in
theorem up_calls (w : World) :
  Calls Try.prog 9 #[] w fun e w' => e = .returned (.bool true) ∧ Below w.heap.size w w' := by
 have hq : ∀ w, (binOp .eql 26 (ptV 0 0 true) (.agg #[.int .u64 0, .int .u64 0, .int .u64 0, .int .u64 0, .int .u64 0, .int .u64 0, .int .u64 0, .int .u64 0, .bool true])).run Try.prog w = .ok (.bool true) w := fun w =>
  eql_pt (x := 0) (y := 0) (x' := 0) (y' := 0) N256_pos N256_pos N256_pos N256_pos true true w
 have hg : ∀ w x_ y_, (eqGuard .eql 26 x_ y_ (ptV 0 0 true) (.agg #[.int .u64 0, .int .u64 0, .int .u64 0, .int .u64 0, .int .u64 0, .int .u64 0, .int .u64 0, .int .u64 0, .bool true])).run Try.prog w = .ok () w := fun w x_ y_ => eqg_pt .eql x_ y_ 0 0 0 0 true true w
 have K1 := Aside0.mk (fun (u : World) => pbase_calls u)
 have K2 := Aside0.mk (fun (u : World) => neg_base u)
 have K3 := Aside0.mk (fun (u : World) => add_base u)
 have K4 := Aside0.mk (fun (u : World) => on_base u)
 have K5 := Aside0.mk (fun (u : World) => on_zero u)
 go_enter Try.func9, Try.ntmps9
 go_upto_region 1 with (fail)
 have HB : Aside0 (Below w.heap.size w w) := Aside0.mk (Below.refl _ _)
 have HS : Aside0 (w.heap.size ≤ w.heap.size) := Aside0.mk (Nat.le_refl _)
 go_upto_region 2 with (first | ((with_reducible refine gate_dst (N := 6) rfl ?_); refine goesL_ (some 6) rfl rfl Try.func18 (by kernel_rfl) rfl #[] rfl (by (try simp only [List.map_toArray, List.map_cons, List.map_nil]); first | done | rfl) ?_; (with_reducible refine (K1.out _).mono ?_); rintro e u1 ⟨rfl, hb_⟩; refine ⟨_, rfl, ?_⟩; replace HB := Aside0.mk (bl_on HB.out hb_ HB.out.size); replace HS := Aside0.mk (Nat.le_trans HS.out hb_.size); clear hb_) | ((with_reducible refine gate_dst (N := 1) rfl ?_); refine al_pt rfl _ rfl rfl ?_; intro g1 u2 eg_ hn_ hb_; have HXg1 : Aside0 (w.heap.size ≤ g1) := Aside0.mk (by rw [eg_]; exact HS.out); replace HB := Aside0.mk (bl_on HB.out hb_ HB.out.size); replace HS := Aside0.mk (Nat.le_trans HS.out hb_.size); have Hg1 := Aside0.mk hn_; clear hn_ hb_ eg_) | ((with_reducible refine gate_st (y := .tmp 6) rfl ?_); (try simp only [aS]); refine st_pt (x := gX) (y := gY) (f := false) Hg1.out rfl _ _ rfl rfl rfl ?_; intro u3 hn_ hb_; replace Hg1 := Aside0.mk hn_; replace HB := Aside0.mk (bl_but HB.out hb_ HB.out.size (by have := HXg1.out; omega)); replace HS := Aside0.mk (Nat.le_trans HS.out hb_.size); clear hn_ hb_))
 go_upto_region 3 with (first | ((with_reducible refine gate_dst (N := 8) rfl ?_); refine ld_pt Hg1.out rfl _ rfl rfl ?_) | ((with_reducible refine gate_dst (N := 9) rfl ?_); refine goesL_ (some 9) rfl rfl Try.func12 (by kernel_rfl) rfl #[ptV gX gY false] rfl (by (try simp only [List.map_toArray, List.map_cons, List.map_nil]); first | done | rfl) ?_; (with_reducible refine (K2.out _).mono ?_); rintro e u4 ⟨rfl, hb_⟩; refine ⟨_, rfl, ?_⟩; replace Hg1 := Aside0.mk (Hg1.out.on hb_); replace HB := Aside0.mk (bl_on HB.out hb_ HB.out.size); replace HS := Aside0.mk (Nat.le_trans HS.out hb_.size); clear hb_) | ((with_reducible refine gate_dst (N := 2) rfl ?_); refine al_pt rfl _ rfl rfl ?_; intro g2 u5 eg_ hn_ hb_; have HXg2 : Aside0 (w.heap.size ≤ g2 ∧ g1 < g2) := Aside0.mk (by rw [eg_]; exact ⟨HS.out, Hg1.out.size⟩); replace Hg1 := Aside0.mk (Hg1.out.on hb_); replace HB := Aside0.mk (bl_on HB.out hb_ HB.out.size); replace HS := Aside0.mk (Nat.le_trans HS.out hb_.size); have Hg2 := Aside0.mk hn_; clear hn_ hb_ eg_) | ((with_reducible refine gate_st (y := .tmp 10) rfl ?_); (try simp only [aS]); refine st_pt (x := gX) (y := gZ) (f := false) Hg2.out rfl _ _ rfl rfl rfl ?_; intro u6 hn_ hb_; replace Hg1 := Aside0.mk (Hg1.out.but hb_ (by have := HXg1.out; have := HXg2.out; omega)); replace Hg2 := Aside0.mk hn_; replace HB := Aside0.mk (bl_but HB.out hb_ HB.out.size (by have := HXg1.out; have := HXg2.out; omega)); replace HS := Aside0.mk (Nat.le_trans HS.out hb_.size); clear hn_ hb_))
 go_upto_region 4 with (first | ((with_reducible refine gate_dst (N := 13) rfl ?_); refine ld_pt Hg1.out rfl _ rfl rfl ?_) | ((with_reducible refine gate_dst (N := 14) rfl ?_); refine ld_pt Hg2.out rfl _ rfl rfl ?_) | ((with_reducible refine gate_dst (N := 15) rfl ?_); refine goesL_ (some 15) rfl rfl Try.func11 (by kernel_rfl) rfl #[ptV gX gY false, ptV gX gZ false] rfl (by (try simp only [List.map_toArray, List.map_cons, List.map_nil]); first | done | rfl) ?_; (with_reducible refine (K3.out _).mono ?_); rintro e u7 ⟨rfl, hb_⟩; refine ⟨_, rfl, ?_⟩; replace Hg1 := Aside0.mk (Hg1.out.on hb_); replace Hg2 := Aside0.mk (Hg2.out.on hb_); replace HB := Aside0.mk (bl_on HB.out hb_ HB.out.size); replace HS := Aside0.mk (Nat.le_trans HS.out hb_.size); clear hb_) | ((with_reducible refine gate_dst (N := 4) rfl ?_); refine al_pt rfl _ rfl rfl ?_; intro g4 u8 eg_ hn_ hb_; have HXg4 : Aside0 (w.heap.size ≤ g4 ∧ g1 < g4 ∧ g2 < g4) := Aside0.mk (by rw [eg_]; exact ⟨HS.out, Hg1.out.size, Hg2.out.size⟩); replace Hg1 := Aside0.mk (Hg1.out.on hb_); replace Hg2 := Aside0.mk (Hg2.out.on hb_); replace HB := Aside0.mk (bl_on HB.out hb_ HB.out.size); replace HS := Aside0.mk (Nat.le_trans HS.out hb_.size); have Hg4 := Aside0.mk hn_; clear hn_ hb_ eg_) | ((with_reducible refine gate_st (y := .tmp 16) rfl ?_); (try simp only [aS]); refine st_pt (x := 0) (y := 0) (f := true) Hg4.out rfl _ _ rfl rfl rfl ?_; intro u9 hn_ hb_; replace Hg1 := Aside0.mk (Hg1.out.but hb_ (by have := HXg1.out; have := HXg2.out; have := HXg4.out; omega)); replace Hg2 := Aside0.mk (Hg2.out.but hb_ (by have := HXg1.out; have := HXg2.out; have := HXg4.out; omega)); replace Hg4 := Aside0.mk hn_; replace HB := Aside0.mk (bl_but HB.out hb_ HB.out.size (by have := HXg1.out; have := HXg2.out; have := HXg4.out; omega)); replace HS := Aside0.mk (Nat.le_trans HS.out hb_.size); clear hn_ hb_))
 go_wp2_with (first | ((with_reducible refine gate_dst (N := 18) rfl ?_); refine ld_pt Hg1.out rfl _ rfl rfl ?_) | ((with_reducible refine gate_dst (N := 19) rfl ?_); refine goesL_ (some 19) rfl rfl Try.func10 (by kernel_rfl) rfl #[ptV gX gY false] rfl (by (try simp only [List.map_toArray, List.map_cons, List.map_nil]); first | done | rfl) ?_; (with_reducible refine (K4.out _).mono ?_); rintro e u10 ⟨rfl, hb_⟩; refine ⟨_, rfl, ?_⟩; replace Hg1 := Aside0.mk (Hg1.out.on hb_); replace Hg2 := Aside0.mk (Hg2.out.on hb_); replace Hg4 := Aside0.mk (Hg4.out.on hb_); replace HB := Aside0.mk (bl_on HB.out hb_ HB.out.size); replace HS := Aside0.mk (Nat.le_trans HS.out hb_.size); clear hb_) | ((with_reducible refine gate_dst (N := 22) rfl ?_); refine wpList_step (fun K_ hK_ => ?_); refine goes_ Try.func10 (by kernel_rfl) rfl #[ptV 0 0 false] (by rfl) rfl rfl (by (try simp only [List.map_toArray, List.map_cons, List.map_nil]); first | done | rfl) ?_; (with_reducible refine (K5.out _).mono ?_); rintro e u11 ⟨rfl, hb_⟩; refine ⟨_, rfl, ?_⟩; refine hK_ _ _ ?_; clear hK_ K_; replace Hg1 := Aside0.mk (Hg1.out.on hb_); replace Hg2 := Aside0.mk (Hg2.out.on hb_); replace Hg4 := Aside0.mk (Hg4.out.on hb_); replace HB := Aside0.mk (bl_on HB.out hb_ HB.out.size); replace HS := Aside0.mk (Nat.le_trans HS.out hb_.size); clear hb_) | ((with_reducible refine gate_dst (N := 34) rfl ?_); refine ld_ptG Hg4.out (by rfl) _ rfl rfl ?_))
 go_ret
 exact ⟨rfl, HB.out⟩
end Go.Proofs.Ytkfjhndofbmhoaa
namespace Go.Proofs.Ytkfjhndofbmhoaa.EC
open Go.RowKit Pt
set_option linter.unusedVariables false
set_option linter.unusedSimpArgs false
theorem fd_of {p : Nat} [NeZero p] (hp : Pr.Prime p) : Fd p := ⟨fun x hx => by
 have h0 : x.val ≠ 0 := fun e => hx (Fin.ext (by rw [e]; rfl))
 obtain ⟨a, ha, h⟩ := Pr.inv_ex hp (Nat.pos_of_ne_zero h0) x.isLt
 refine ⟨ph p a, Fin.ext ?_⟩
 have h1 : (1 : Fin p).val = 1 % p := rfl
 rw [h1, Nat.mod_eq_of_lt hp.1, Fin.val_mul, ph_lt ha]
 exact h⟩
instance : NeZero pP := ⟨Nat.pos_iff_ne_zero.1 pP_pos⟩
theorem pr_p : Pr.Prime pP := Pr.pr_qP
instance : Nonempty (Fd pP) := ⟨fd_of pr_p⟩
/-- a number, as an element of the field -/
def fi (a : Nat) : Fin pP := ph pP a
def cb : Fin pP := fi cB
theorem fi_mul (a b : Nat) : fi (mmp a b) = fi a * fi b := ph_mul a b
theorem fi_add (a b : Nat) : fi (adp a b) = fi a + fi b := ph_add a b
theorem fi_sub {a b : Nat} (hb : b < pP) : fi (msp a b) = fi a - fi b := ph_sub (Nat.le_of_lt hb)
theorem fi_inj {a b : Nat} (ha : a < pP) (hb : b < pP) (h : fi a = fi b) : a = b := ph_inj ha hb h
theorem fi_val {a : Nat} (ha : a < pP) : (fi a).val = a := ph_lt ha
theorem fi_of (x : Fin pP) : fi x.val = x := ph_of x
theorem fi_zero : fi 0 = 0 := ph0
theorem fi_ne {a : Nat} (ha : a < pP) (h : a ≠ 0) : fi a ≠ 0 := ph_ne ha h
theorem fi_lit2 : fi 2 = 2 := rfl
theorem fi_lit3 : fi 3 = 3 := rfl
theorem fi_lit4 : fi 4 = 4 := rfl
theorem fi_lit8 : fi 8 = 8 := rfl
theorem fi_one : fi 1 = 1 := rfl
theorem ok_cb : Ok cb := ⟨by decide +kernel, by decide +kernel, by decide +kernel⟩
theorem one_p : (1 : Fin pP) ≠ 0 := by decide +kernel
/-- a point, as the curve's -/
def P2 (x y : Nat) (f : Bool) : Pt pP := if f then far else Pt.affp (fi x) (fi y)
/-- the curve's point, as a value -/
def nx : Pt pP → Nat | far => 0 | Pt.affp x _ => x.val
def ny : Pt pP → Nat | far => 0 | Pt.affp _ y => y.val
def nf : Pt pP → Bool | far => true | Pt.affp _ _ => false
def vP (P : Pt pP) : Value := ptV (nx P) (ny P) (nf P)
theorem nx_lt (P : Pt pP) : nx P < pP := by
 cases P with
 | far => exact pP_pos
 | affp x y => exact x.isLt
theorem ny_lt (P : Pt pP) : ny P < pP := by
 cases P with
 | far => exact pP_pos
 | affp x y => exact y.isLt
theorem P2_n (P : Pt pP) : P2 (nx P) (ny P) (nf P) = P := by
 cases P with
 | far => rfl
 | affp x y => exact congr (congrArg Pt.affp (fi_of x)) (fi_of y)
theorem on_eq (x y : Nat) (h : mmp y y = adp (msp (mmp (mmp x x) x) (mmp x 3)) cB) : fi y * fi y = fi x * fi x * fi x - 3 * fi x + cb := by
 have h2 := congrArg fi h
 rw [fi_mul, fi_add, fi_sub (mmp_lt _ _), fi_mul, fi_mul, fi_mul, fi_lit3] at h2
 rw [h2, Fin.mul_comm (fi x) 3]
 rfl
theorem on_spec {x y : Nat} {f : Bool} (h : onB x y f = true) : On cb (P2 x y f) := by
 cases f with
 | true => trivial
 | false =>
  unfold onB at h
  rw [if_neg (by decide)] at h
  exact on_eq x y (of_decide_eq_true h).2.2
theorem on_back {P : Pt pP} (h : On cb P) : onB (nx P) (ny P) (nf P) = true := by
 cases P with
 | far =>
  show onB 0 0 true = true
  decide +kernel
 | affp x y =>
  show onB x.val y.val false = true
  unfold onB
  rw [if_neg (by decide)]
  refine decide_eq_true ⟨x.isLt, y.isLt, fi_inj (mmp_lt _ _) (adp_lt _ _) ?_⟩
  rw [fi_mul, fi_add, fi_sub (mmp_lt _ _), fi_mul, fi_mul, fi_mul, fi_lit3, fi_of, fi_of, Fin.mul_comm x 3]
  exact h
/-- a point on the curve is written in one way -/
theorem on_form {x y : Nat} {f : Bool} (h : onB x y f = true) : x = nx (P2 x y f) ∧ y = ny (P2 x y f) ∧ f = nf (P2 x y f) := by
 cases f with
 | true =>
  unfold onB at h
  rw [if_pos rfl] at h
  obtain ⟨rfl, rfl⟩ := of_decide_eq_true h
  exact ⟨rfl, rfl, rfl⟩
 | false =>
  obtain ⟨hx, hy⟩ := onB_lt h
  exact ⟨(fi_val hx).symm, (fi_val hy).symm, rfl⟩
def fT (t : T3) : Fin pP × Fin pP × Fin pP := (fi t.1, fi t.2.1, fi t.2.2)
theorem twJ_eq (x y z : Nat) : fT (twJ x y z) = twF (fi x, fi y, fi z) := by
 have lt1 : ∀ a b, mmp a b < pP := mmp_lt
 have lt2 : ∀ a b, msp a b < pP := msp_lt
 unfold twJ fT twF
 dsimp only
 rw [fi_sub (lt1 _ _), fi_sub (lt1 _ _), fi_sub (lt1 _ _), fi_sub (lt1 _ _)]
 simp only [fi_mul, fi_add, fi_sub (lt1 _ _), fi_sub (lt2 _ _), fi_lit3, fi_lit4, fi_lit8]
theorem suJ_eq {x1 y1 z1 x2 y2 z2 : Nat} (b1 : z1 < pP) (b2 : z2 < pP) : fT (suJ x1 y1 z1 x2 y2 z2) = suF (fi x1, fi y1, fi z1) (fi x2, fi y2, fi z2) := by
 have lt1 : ∀ a b, mmp a b < pP := mmp_lt
 have lt2 : ∀ a b, msp a b < pP := msp_lt
 unfold suJ suF
 by_cases h1 : z1 = 0
 ·rw [if_pos h1, if_pos (show fi z1 = 0 by rw [h1]; exact fi_zero)]
  rfl
 rw [if_neg h1, if_neg (show ¬ fi z1 = 0 from fi_ne b1 h1)]
 by_cases h2 : z2 = 0
 ·rw [if_pos h2, if_pos (show fi z2 = 0 by rw [h2]; exact fi_zero)]
  rfl
 rw [if_neg h2, if_neg (show ¬ fi z2 = 0 from fi_ne b2 h2)]
 dsimp only
 have eh : fi (msp (mmp x2 (mmp z1 z1)) (mmp x1 (mmp z2 z2))) = fi x2 * (fi z1 * fi z1) - fi x1 * (fi z2 * fi z2) := by simp only [fi_sub (lt1 _ _), fi_mul]
 have er : fi (msp (mmp y2 (mmp (mmp z1 z1) z1)) (mmp y1 (mmp (mmp z2 z2) z2))) = fi y2 * (fi z1 * fi z1 * fi z1) - fi y1 * (fi z2 * fi z2 * fi z2) := by simp only [fi_sub (lt1 _ _), fi_mul]
 have lh := lt2 (mmp x2 (mmp z1 z1)) (mmp x1 (mmp z2 z2))
 have lr := lt2 (mmp y2 (mmp (mmp z1 z1) z1)) (mmp y1 (mmp (mmp z2 z2) z2))
 rw [← eh, ← er]
 generalize msp (mmp x2 (mmp z1 z1)) (mmp x1 (mmp z2 z2)) = h at *
 generalize msp (mmp y2 (mmp (mmp z1 z1) z1)) (mmp y1 (mmp (mmp z2 z2) z2)) = r at *
 by_cases h3 : h = 0
 ·rw [if_pos h3, if_pos (show fi h = 0 by rw [h3]; exact fi_zero)]
  by_cases h4 : r = 0
  ·rw [if_pos h4, if_pos (show fi r = 0 by rw [h4]; exact fi_zero)]
   exact twJ_eq x1 y1 z1
  ·rw [if_neg h4, if_neg (show ¬ fi r = 0 from fi_ne lr h4)]
   exact congr (congrArg Prod.mk fi_zero) (congr (congrArg Prod.mk fi_zero) fi_zero)
 ·rw [if_neg h3, if_neg (show ¬ fi h = 0 from fi_ne lh h3)]
  unfold fT
  dsimp only
  simp only [fi_mul, fi_add, fi_sub (lt1 _ _), fi_sub (lt2 _ _), fi_lit2]
theorem flJ_eq {x y z : Nat} (b3 : z < pP) : flJ x y z = vP (tp (fi x, fi y, fi z)) := by
 by_cases hz : z = 0
 ·subst hz
  rw [flJ_far, fi_zero, tp_far]
  rfl
 ·obtain ⟨v, hv, h1⟩ := Pr.inv_ex pr_p (Nat.pos_of_ne_zero hz) b3
  have e : invO pP z = some v := invO_some ⟨hv, h1⟩
  have h2 : fi z * fi v = 1 := by
   rw [← fi_mul, show mmp z v = 1 from h1]
   rfl
  have h3 := ivm (fi_ne b3 hz)
  have h4 : iv (fi z) = fi v := by grobner
  unfold flJ
  rw [e]
  unfold tp
  rw [if_neg (fi_ne b3 hz)]
  dsimp only
  rw [h4]
  unfold vP nx ny nf
  dsimp only
  rw [← fi_mul, ← fi_mul, ← fi_mul, ← fi_mul, fi_val (mmp_lt _ _), fi_val (mmp_lt _ _)]
theorem li_eq (x y : Nat) (f : Bool) : tp (fT (liJ x y f)) = P2 x y f := by
 cases f with
 | true =>
  show tp (fi 0, fi 0, fi 0) = far
  rw [fi_zero, tp_far]
 | false =>
  show tp (fi x, fi y, fi 1) = Pt.affp (fi x) (fi y)
  rw [fi_one, tp_one one_p]
theorem shr_step (k j : Nat) : k / 2 ^ j = 2 * (k / 2 ^ (j + 1)) + (if k.testBit j then 1 else 0) := by
 rw [Nat.pow_succ, ← Nat.div_div_eq_div_mul, Nat.testBit_eq_decide_div_mod_eq]
 have := Nat.div_add_mod (k / 2 ^ j) 2
 have := Nat.mod_lt (k / 2 ^ j) (show 0 < 2 by decide)
 by_cases h : k / 2 ^ j % 2 = 1
 ·rw [if_pos (by rw [decide_eq_true h])]
  omega
 ·rw [if_neg (by rw [decide_eq_false h]; decide)]
  omega
theorem mu_eq {k : Nat} {t : T3} (ht : Lt3 t) {Q : Pt pP} (hQ : On cb Q) (eQ : tp (fT t) = Q) (L : Nat) (hk : k < 2 ^ L) : ∀ n, n ≤ L → tp (fT (muS k t L n)) = sm (k / 2 ^ (L - n)) Q
 | 0, _ => by
  rw [Nat.sub_zero, Nat.div_eq_of_lt hk]
  show tp (fi 0, fi 0, fi 0) = far
  rw [fi_zero, tp_far]
 | n + 1, hn => by
  have ih := mu_eq ht hQ eQ L hk n (by omega)
  have lt := muS_lt (k := k) ht L n
  have e1 : L - n = L - (n + 1) + 1 := by omega
  have lw := twJ_lt (muS k t L n).1 (muS k t L n).2.1 (muS k t L n).2.2
  have et : tp (fT (twT (muS k t L n))) = sm (2 * (k / 2 ^ (L - n))) Q := by
   rw [sm_two ok_cb hQ, ← ih, ← twF_spec ok_cb.h2]
   exact congrArg tp (twJ_eq _ _ _)
  unfold muS
  rw [shr_step k (L - (n + 1)), ← e1]
  by_cases hb : k.testBit (L - (n + 1)) = true
  ·rw [if_pos hb, if_pos hb]
   show _ = add (sm (2 * (k / 2 ^ (L - n))) Q) Q
   rw [← et, ← eQ]
   have lw2 : (twT (muS k t L n)).2.2 < pP := lw.2.2
   clear lw ih lt
   generalize twT (muS k t L n) = s at *
   have := suF_spec ok_cb.h2 (b := cb) (s := fT s) (t := fT t) (by rw [et]; exact sm_on hQ _) (by rw [eQ]; exact hQ)
   rw [← this]
   refine congrArg tp (suJ_eq ?_ ht.2.2)
   exact lw2
  ·rw [if_neg hb, if_neg hb, Nat.add_zero]
   exact et
theorem muV_eq {k x y : Nat} {f : Bool} (hk : k < N256) (o1 : onB x y f = true) : muV k x y f = vP (sm k (P2 x y f)) := by
 obtain ⟨bx1, by1⟩ := onB_lt o1
 have la := liJ_lt bx1 by1 f
 have oa := on_spec o1
 have h := mu_eq la oa (li_eq x y f) (lenN k) (lenN_lt k) (lenN k) (Nat.le_refl _)
 have lt := muS_lt (k := k) la (lenN k) (lenN k)
 rw [Nat.sub_self, Nat.pow_zero, Nat.div_one] at h
 unfold muV
 dsimp only
 rw [flJ_eq lt.2.2]
 exact congrArg vP h
theorem vN (P : Pt pP) : nx P < N256 ∧ ny P < N256 := ⟨lt_N (nx_lt P), lt_N (ny_lt P)⟩
theorem gMul {k : Nat} (hk : k < N256) {P : Pt pP} (h1 : On cb P) (w : World) : Calls Try.prog 22 #[numV k, vP P] w fun e w' => e = .returned (.tuple #[vP (sm k P), .nilIface]) ∧ Below w.heap.size w w' := by
 have h := pMul_calls (f := nf P) hk (vN P).1 (vN P).2 w
 have e : mpV k (nx P) (ny P) (nf P) = .tuple #[vP (sm k P), .nilIface] := by
  unfold mpV
  rw [on_back h1, muV_eq hk (on_back h1), P2_n]
  rfl
 rw [e] at h
 exact h
theorem vP_form (P : Pt pP) : ∃ x y f, vP P = ptV x y f ∧ x < N256 ∧ y < N256 := ⟨_, _, _, rfl, vN P⟩
theorem on_vP {x y : Nat} {f : Bool} (h : onB x y f = true) : ptV x y f = vP (P2 x y f) := by
 obtain ⟨h1, h2, h3⟩ := on_form h
 unfold vP
 rw [← h1, ← h2, ← h3]
end Go.Proofs.Ytkfjhndofbmhoaa.EC
namespace Go.Proofs.Ytkfjhndofbmhoaa.EC
open Go.RowKit Pt
set_option linter.unusedVariables false
set_option linter.unusedSimpArgs false
/-- polynomials modulo the curve's cubic -/
def m3 (a c : T3) : T3 :=
 ((a.1 * c.1 + (pP - cB) * (a.2.1 * c.2.2 + a.2.2 * c.2.1)) % pP, (a.1 * c.2.1 + a.2.1 * c.1 + 3 * (a.2.1 * c.2.2 + a.2.2 * c.2.1) + (pP - cB) * (a.2.2 * c.2.2)) % pP, (a.1 * c.2.2 + a.2.1 * c.2.1 + a.2.2 * c.1 + 3 * (a.2.2 * c.2.2)) % pP)
def ev (r : Fin pP) (a : T3) : Fin pP := fi a.1 + fi a.2.1 * r + fi a.2.2 * (r * r)
end Go.Proofs.Ytkfjhndofbmhoaa.EC
