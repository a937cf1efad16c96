/- What the proof of PointMultiples is made of, part 33. -/
import Derived.Test.YtkfjhndofbmhoaaZPointMultiples27
import Derived.Test.YtkfjhndofbmhoaaZPointMultiplesh
namespace Go.Proofs.Ytkfjhndofbmhoaa
open Go.RowKit Go.Proofs.Ytkfjhndofbmhoaa.Arr Go.Proofs.YtkfjhndofbmhoaaW.PrintWords Go.Proofs.YtkfjhndofbmhoaaW.PrintLast Go.Proofs.YtkfjhndofbmhoaaW.PrintMore
set_option linter.unusedVariables false
set_option linter.unusedSimpArgs false
set_option maxRecDepth 100000 in
set_option maxHeartbeats 8000000 in
theorem pof_calls (w : World) : Calls Try.prog 29 #[] w fun e w' => ∃ gf, e = .returned (cvV gf) ∧ CFld w' gf ∧ w.heap.size ≤ gf ∧ Below w.heap.size w w' := by
 have HP := Aside0.mk (fun u => cp_calls u)
 have HN := Aside0.mk (fun u => fnew_calls pP u pP_lt pP_odd pP_one)
 go_enter Try.func29, Try.ntmps29
 go_upto_region 1 with (fail)
 refine wp_at (w2 := (World.alloc w (.cells cvz.toArray 58))) rfl ?_
 obtain ⟨w1, e_0, h_0, b_0, s_0⟩ := new_CzAt w
 rw [e_0]
 have HR := Aside0.mk h_0
 have HB := Aside0.mk b_0
 clear e_0 h_0 b_0 s_0
 go_wp2_with (first
  | ((with_reducible refine gate_callee (f := 14) rfl ?_); refine goesL_ (some 4) rfl rfl Try.func14 (by kernel_rfl) rfl #[] rfl (by (try simp only [List.map_toArray, List.map_cons, List.map_nil]); first | done | rfl) ?_; (with_reducible refine (HP.out _).mono ?_); rintro e u1 ⟨rfl, hb_⟩; replace HR := Aside0.mk (HR.out.on hb_); replace HB := Aside0.mk (bl_on HB.out hb_ HB.out.size); clear hb_; refine ⟨_, rfl, ?_⟩)
  | ((with_reducible refine gate_callee (f := 50) rfl ?_); refine goesL_ (some 5) rfl rfl Try.func50 (by kernel_rfl) rfl #[numV pP] rfl (by (try simp only [List.map_toArray, List.map_cons, List.map_nil]); first | done | rfl) ?_; (with_reducible refine (HN.out _).mono ?_); rintro e u2 ⟨gf, rfl, hge_, hF_, hb_⟩; have HGE : Aside0 (w.heap.size ≤ gf ∧ w.heap.size < gf) := Aside0.mk (by have h1 := HR.out.size; have h2 := HB.out.size; omega); have HF : Aside0 (CFld u2 gf) := Aside0.mk hF_; replace HR := Aside0.mk (HR.out.on hb_); replace HB := Aside0.mk (bl_on HB.out hb_ HB.out.size); clear hb_ hge_ hF_; refine ⟨_, rfl, ?_⟩)
  | ((with_reducible refine gate_st (y := .tmp 19) rfl ?_); refine st_cv (gf := gf) HR.out rfl _ _ rfl rfl rfl ?_; intro u3 hn_ hb_; have HC := Aside0.mk hn_; replace HF := Aside0.mk (HF.out.but hb_ (by have := HGE.out; omega)); replace HB := Aside0.mk (bl_but HB.out hb_ HB.out.size (Nat.le_refl _)); clear hn_ hb_))
 exact bodyPost_ret (v := cvV gf) (results_cv rfl rfl HC.out) rfl ⟨gf, rfl, HF.out, HGE.out.1, HB.out⟩
set_option maxRecDepth 100000 in
set_option maxHeartbeats 8000000 in
theorem pOn_calls {x y : Nat} (hx : x < N256) (hy : y < N256) (f : Bool) (w : World) :
  Calls Try.prog 10 #[ptV x y f] w fun e w' => e = .returned (.bool (onB x y f)) ∧ Below w.heap.size w w' := by
 have HO := Aside0.mk (fun u => pof_calls u)
 have HC := Aside0.mk (fun (gf : Nat) (u : World) (h : CFld u gf) => pon_calls hx hy f u h)
 generalize onB x y f = D at *
 clear hx hy
 go_enter Try.func10, Try.ntmps10
 go_upto_region 1 with (fail)
 refine wp_at (w2 := (World.alloc w (.cells (pw x y f).toArray 26))) rfl ?_
 obtain ⟨x_0, e_0, h_0, b_0, s_0⟩ := new_PtAt w x y f
 rw [e_0]
 have HB : Aside0 (Below w.heap.size w x_0) := Aside0.mk b_0
 have HA : Aside0 (PtAt x_0 (w.heap.size) x y f) := Aside0.mk h_0
 have HS : Aside0 (w.heap.size + 1 ≤ x_0.heap.size) := Aside0.mk (Nat.le_of_eq s_0.symm)
 clear e_0 h_0 b_0 s_0
 obtain ⟨w1, hw_⟩ : ∃ x, x = x_0 := ⟨_, rfl⟩
 subst hw_
 refine start_ (n := 4) (S := fun w' => Below w1.heap.size w1 w') (ds := []) #[false, false, false, false] (by kernel_rfl) rfl rfl ((Below.refl _ _).drew) (fun hHeld => ?_)
 refine take_ (i := 1) (N := some 4) (a' := ?_) #[false, true, false, false] rfl rfl (by kernel_rfl) (fun _ _ _ h => h) (yieldsIf_load_mid (by rfl) 26 (.tmp 1) rfl w.heap.size 0 rfl ((pw x y f)) _ (fun w' hS => (HA.out.on hS).range) rfl rfl (rfl)) hHeld ?_ ?_
 rotate_left
 ·simp only [aS, i64_w, i32_w]
  rfl
 refine on1_ 0 (some 3) #[true, true, false, false] rfl fun K hK => ?_
 refine goes_ Try.func29 (by kernel_rfl) rfl #[] (by rfl) rfl rfl (by first | rfl | simp only [List.map_toArray, List.map_cons, List.map_nil]) ?_
 with_reducible refine (HO.out _).mono ?_
 rintro e u1 ⟨gf, rfl, hF_, hge_, hb_⟩
 refine ⟨_, rfl, ?_⟩
 have HF := Aside0.mk hF_
 refine hK.out _ _ (bl_on hHeld hb_ hHeld.size) (fun hHeld => ?_)
 clear hK K
 refine nm_ (some 3) ?_
 refine on1_ 2 (some 5) #[true, true, true, false] rfl fun K hK => ?_
 refine gs_ Try.func30 #[cvV gf, ptV x y f] rfl ?_
 with_reducible refine (HC.out _ _ HF.out).mono ?_
 rintro e u2 ⟨rfl, hb2⟩
 refine ⟨_, rfl, ?_⟩
 refine hK.out _ _ (bl_on hHeld hb2 hHeld.size) (fun hHeld => ?_)
 clear hK K
 refine nm_ (some 5) ?_
 refine pu_ 3 2 #[true, true, true, true] ?_ ?_ ?_ ?_ ?_
 rotate_left
 ·intro w'
  go_simp
  with_reducible rfl
 rotate_left
 ·simp only [aS, i64_w, i32_w]
  rfl
 refine done_ (by kernel_rfl) ?_
 go_wp2
 go_ret
 exact ⟨rfl, bl_on HB.out hHeld HB.out.size⟩
end Go.Proofs.Ytkfjhndofbmhoaa
namespace Go.Proofs.Ytkfjhndofbmhoaa
open Go.RowKit Go.Proofs.Ytkfjhndofbmhoaa.Arr Go.Proofs.YtkfjhndofbmhoaaW.PrintWords Go.Proofs.YtkfjhndofbmhoaaW.PrintLast Go.Proofs.YtkfjhndofbmhoaaW.PrintMore
attribute [local go_sem high] eqg_num eqg_num0
set_option linter.unusedVariables false
set_option linter.unusedSimpArgs false
theorem msp_lt (a b : Nat) : msp a b < pP := mod_p _
theorem mmp_lt (a b : Nat) : mmp a b < pP := mod_p _
theorem adp_lt (a b : Nat) : adp a b < pP := mod_p _
theorem twJ_lt (x y z : Nat) : (twJ x y z).1 < pP ∧ (twJ x y z).2.1 < pP ∧ (twJ x y z).2.2 < pP := by
 dsimp only [twJ]
 exact ⟨msp_lt _ _, msp_lt _ _, msp_lt _ _⟩
def Lt3 (t : Nat × Nat × Nat) : Prop := t.1 < pP ∧ t.2.1 < pP ∧ t.2.2 < pP
theorem suJ_lt {x1 y1 z1 x2 y2 z2 : Nat} (hx1 : x1 < pP) (hy1 : y1 < pP) (hz1 : z1 < pP) (hx2 : x2 < pP) (hy2 : y2 < pP) (hz2 : z2 < pP) : (suJ x1 y1 z1 x2 y2 z2).1 < pP ∧ (suJ x1 y1 z1 x2 y2 z2).2.1 < pP ∧ (suJ x1 y1 z1 x2 y2 z2).2.2 < pP := by
 show Lt3 (suJ x1 y1 z1 x2 y2 z2)
 unfold suJ
 by_cases h1 : z1 = 0
 ·rw [if_pos h1]
  exact ⟨hx2, hy2, hz2⟩
 ·rw [if_neg h1]
  by_cases h2 : z2 = 0
  ·rw [if_pos h2]
   exact ⟨hx1, hy1, hz1⟩
  ·rw [if_neg h2]
   generalize hu : mmp x1 (mmp z2 z2) = u
   generalize hv : mmp y1 (mmp (mmp z2 z2) z2) = v
   dsimp only
   generalize msp (mmp x2 (mmp z1 z1)) u = h
   generalize msp (mmp y2 (mmp (mmp z1 z1) z1)) v = r
   by_cases h3 : h = 0
   ·rw [if_pos h3]
    by_cases h4 : r = 0
    ·rw [if_pos h4]
     exact twJ_lt x1 y1 z1
    ·rw [if_neg h4]
     exact ⟨pP_pos, pP_pos, pP_pos⟩
   ·rw [if_neg h3]
    exact ⟨msp_lt _ _, msp_lt _ _, mmp_lt _ _⟩
theorem liJ_lt {x y : Nat} (hx : x < pP) (hy : y < pP) (f : Bool) : (liJ x y f).1 < pP ∧ (liJ x y f).2.1 < pP ∧ (liJ x y f).2.2 < pP := by
 cases f
 ·exact ⟨hx, hy, pP_one⟩
 ·exact ⟨pP_pos, pP_pos, pP_pos⟩
theorem onB_lt {x y : Nat} {f : Bool} (h : onB x y f = true) : x < pP ∧ y < pP := by
 cases f
 ·unfold onB at h
  rw [if_neg (by decide)] at h
  have h2 := of_decide_eq_true h
  exact ⟨h2.1, h2.2.1⟩
 ·unfold onB at h
  rw [if_pos rfl] at h
  obtain ⟨rfl, rfl⟩ := of_decide_eq_true h
  exact ⟨pP_pos, pP_pos⟩
theorem flJ_form (x y z : Nat) : ∃ X Y F, flJ x y z = ptV X Y F ∧ X < pP ∧ Y < pP := by
 unfold flJ
 split
 ·exact ⟨0, 0, true, rfl, pP_pos, pP_pos⟩
 ·exact ⟨_, _, false, rfl, mmp_lt _ _, mmp_lt _ _⟩
/-- what Neg answers -/
def ngV (x y : Nat) (f : Bool) : Value := if onB x y f then .tuple #[ptV x (msp 0 y) f, .nilIface] else .tuple #[ptV 0 0 false, .iface 38 (.int .i64 1)]
set_option maxRecDepth 100000 in
set_option maxHeartbeats 8000000 in
theorem pneg_ok {x y : Nat} {f : Bool} (hx : x < N256) (hy : y < N256) (hon : onB x y f = true) (w : World) :
  Calls Try.prog 12 #[ptV x y f] w fun e w' => e = .returned (ngV x y f) ∧ Below w.heap.size w w' := by
 obtain ⟨b_x, b_y⟩ := onB_lt hon
 have hres : ngV x y f = .tuple #[ptV x (msp 0 y) f, .nilIface] := by unfold ngV; rw [hon]; rfl
 obtain ⟨t1, e_t1⟩ : ∃ t, t = (0 + pP - y) % pP := ⟨_, rfl⟩
 have b_t1 : t1 < pP := by rw [e_t1]; exact mod_p _
 have K1 := Aside0.mk (fun (u : World) => pof_calls u)
 have K2 := Aside0.mk (fun (gf : Nat) (u : World) (h : CFld u gf) => pon_calls hx hy f u h)
 have K3 := Aside0.mk (fun (gf : Nat) (u : World) (h : CFld u gf) => psub_calls (show 0 < pP by decide +kernel) b_y u h)
 rw [← e_t1] at K3
 rw [hres]
 rw [hon] at K2
 have e3 : msp 0 y = t1 := by rw [e_t1]; rfl
 rw [e3]
 clear e3
 clear e_t1 b_t1 hres hx hy hon b_x b_y
 go_enter Try.func12, Try.ntmps12
 go_upto_region 1 with (fail)
 refine wp_at (w2 := (World.alloc (World.alloc w (.cells (pw x y f).toArray 26)) (.cells (pw 0 0 false).toArray 26))) rfl ?_
 obtain ⟨x_0, e_0, h_0, b_0, s_0⟩ := new_PtAt w x y f
 obtain ⟨x_1, e_1, h_1, b_1, s_1⟩ := new_PtAt x_0 0 0 false
 rw [e_0, e_1]
 rw [s_0] at h_1 s_1
 have HB : Aside0 (Below w.heap.size w x_1) := Aside0.mk (bl_both b_0 b_1)
 have HA : Aside0 (PtAt x_1 (w.heap.size) x y f) := Aside0.mk (h_0.on b_1)
 have HR : Aside0 (PtAt x_1 (w.heap.size + 1) 0 0 false) := Aside0.mk h_1
 have HS : Aside0 (w.heap.size + 1 + 1 ≤ x_1.heap.size) := Aside0.mk (Nat.le_of_eq s_1.symm)
 clear e_0 h_0 b_0 s_0 e_1 h_1 b_1 s_1
 obtain ⟨w1, hw_⟩ : ∃ x, x = x_1 := ⟨_, rfl⟩
 subst hw_
 clear x_0
 go_upto_region 2 with (first | ((with_reducible refine gate_dst (N := 5) rfl ?_); refine goesL_ (some 5) rfl rfl Try.func29 (by kernel_rfl) rfl #[] rfl (by (try simp only [List.map_toArray, List.map_cons, List.map_nil]); first | done | rfl) ?_; (with_reducible refine (K1.out _).mono ?_); rintro e u1 ⟨gf, rfl, hF_, hge_, hb_⟩; refine ⟨_, rfl, ?_⟩; have HS0_ := HS; replace HA := Aside0.mk (HA.out.on hb_); replace HR := Aside0.mk (HR.out.on hb_); replace HB := Aside0.mk (bl_on HB.out hb_ HB.out.size); replace HS := Aside0.mk (Nat.le_trans HS.out hb_.size); have HF := Aside0.mk hF_; have HXgf : Aside0 (w.heap.size + 1 + 1 ≤ gf) := Aside0.mk (Nat.le_trans HS0_.out hge_); clear hF_ hge_ HS0_; clear hb_) | ((with_reducible refine gate_dst (N := 4) rfl ?_); refine al_cv rfl _ rfl rfl ?_; intro g4 u2 eg_ hn_ hb_; have HXg4 : Aside0 (w.heap.size + 1 + 1 ≤ g4 ∧ gf < g4) := Aside0.mk (by rw [eg_]; exact ⟨HS.out, HF.out.size⟩); replace HA := Aside0.mk (HA.out.on hb_); replace HR := Aside0.mk (HR.out.on hb_); replace HF := Aside0.mk (HF.out.on hb_); replace HB := Aside0.mk (bl_on HB.out hb_ HB.out.size); replace HS := Aside0.mk (Nat.le_trans HS.out hb_.size); have Hg4 := Aside0.mk hn_; clear hn_ hb_ eg_) | ((with_reducible refine gate_st (y := .tmp 5) rfl ?_); (try simp only [aS]); refine st_cv Hg4.out rfl _ _ rfl rfl rfl ?_; intro u3 hn_ hb_; replace HA := Aside0.mk (HA.out.but hb_ (by have := HXgf.out; have := HXg4.out; omega)); replace HR := Aside0.mk (HR.out.but hb_ (by have := HXgf.out; have := HXg4.out; omega)); replace HF := Aside0.mk (HF.out.but hb_ (by have := HXgf.out; have := HXg4.out; omega)); replace Hg4 := Aside0.mk hn_; replace HB := Aside0.mk (bl_but HB.out hb_ HB.out.size (by have := HXgf.out; have := HXg4.out; omega)); replace HS := Aside0.mk (Nat.le_trans HS.out hb_.size); clear hn_ hb_))
 go_upto_region 4 with (first | ((with_reducible refine gate_dst (N := 6) rfl ?_); refine ld_cv Hg4.out rfl _ rfl rfl ?_) | ((with_reducible refine gate_dst (N := 7) rfl ?_); refine ld_pt HA.out rfl _ rfl rfl ?_) | ((with_reducible refine gate_dst (N := 8) rfl ?_); refine goesL_ (some 8) rfl rfl Try.func30 (by kernel_rfl) rfl #[cvV gf, ptV x y f] rfl (by (try simp only [List.map_toArray, List.map_cons, List.map_nil]); first | done | rfl) ?_; (with_reducible refine (K2.out _ _ (HF.out)).mono ?_); rintro e u4 ⟨rfl, hb_⟩; refine ⟨_, rfl, ?_⟩; replace HA := Aside0.mk (HA.out.on hb_); replace HR := Aside0.mk (HR.out.on hb_); replace Hg4 := Aside0.mk (Hg4.out.on hb_); replace HF := Aside0.mk (HF.out.on hb_); replace HB := Aside0.mk (bl_on HB.out hb_ HB.out.size); replace HS := Aside0.mk (Nat.le_trans HS.out hb_.size); clear hb_))
 have cq0 := Hg4.out.c2
 go_upto_region 5 with (first | ((with_reducible refine gate_dst (N := 16) rfl ?_); refine ld_num (HA.out.ry) rfl _ rfl rfl ?_) | ((with_reducible refine gate_dst (N := 17) rfl ?_); refine goesFL_ (some 17) rfl rfl (.tmp 13) Try.func52 (by kernel_rfl) rfl gf (numV 0) (numV y) rfl rfl (by (try simp only [List.map_toArray, List.map_cons, List.map_nil]); first | done | rfl) ?_; (with_reducible refine (K3.out _ _ (HF.out)).mono ?_); rintro e u5 ⟨rfl, hb_⟩; refine ⟨_, rfl, ?_⟩; replace HA := Aside0.mk (HA.out.on hb_); replace HR := Aside0.mk (HR.out.on hb_); replace Hg4 := Aside0.mk (Hg4.out.on hb_); replace HF := Aside0.mk (HF.out.on hb_); replace HB := Aside0.mk (bl_on HB.out hb_ HB.out.size); replace HS := Aside0.mk (Nat.le_trans HS.out hb_.size); replace cq0 := Hg4.out.c2; clear hb_) | ((with_reducible refine gate_st (y := .tmp 17) rfl ?_); (try simp only [aS]); refine st_pty (n := t1) HA.out rfl _ _ rfl rfl rfl ?_; intro u6 hn_ hb_; replace HR := Aside0.mk (HR.out.but hb_ (by have := HXgf.out; have := HXg4.out; omega)); replace Hg4 := Aside0.mk (Hg4.out.but hb_ (by have := HXgf.out; have := HXg4.out; omega)); replace HF := Aside0.mk (HF.out.but hb_ (by have := HXgf.out; have := HXg4.out; omega)); replace HA := Aside0.mk hn_; replace HB := Aside0.mk (bl_but HB.out hb_ HB.out.size (by have := HXgf.out; have := HXg4.out; omega)); replace HS := Aside0.mk (Nat.le_trans HS.out hb_.size); replace cq0 := Hg4.out.c2; clear hn_ hb_))
 clear cq0
 go_wp2_with (first | ((with_reducible refine gate_dst (N := 19) rfl ?_); refine ld_pt HA.out rfl _ rfl rfl ?_) | ((with_reducible refine gate_st (y := .tmp 19) rfl ?_); (try simp only [aS]); refine st_pt (x := x) (y := t1) (f := f) HR.out rfl _ _ rfl rfl rfl ?_; intro u7 hn_ hb_; replace HA := Aside0.mk (HA.out.but hb_ (by have := HXgf.out; have := HXg4.out; omega)); replace Hg4 := Aside0.mk (Hg4.out.but hb_ (by have := HXgf.out; have := HXg4.out; omega)); replace HF := Aside0.mk (HF.out.but hb_ (by have := HXgf.out; have := HXg4.out; omega)); replace HR := Aside0.mk hn_; replace HB := Aside0.mk (bl_but HB.out hb_ HB.out.size (by have := HXgf.out; have := HXg4.out; omega)); replace HS := Aside0.mk (Nat.le_trans HS.out hb_.size); clear hn_ hb_))
 refine bodyPost_ret (v := .tuple #[ptV x t1 f, .nilIface]) (results_pt2 rfl rfl rfl HR.out) rfl ⟨rfl, HB.out⟩
set_option maxRecDepth 100000 in
set_option maxHeartbeats 8000000 in
theorem pneg_bad {x y : Nat} {f : Bool} (hx : x < N256) (hy : y < N256) (hon : onB x y f = false) (w : World) :
  Calls Try.prog 12 #[ptV x y f] w fun e w' => e = .returned (ngV x y f) ∧ Below w.heap.size w w' := by
 have hres : ngV x y f = .tuple #[ptV 0 0 false, .iface 38 (.int .i64 1)] := by unfold ngV; rw [hon]; rfl
 have K1 := Aside0.mk (fun (u : World) => pof_calls u)
 have K2 := Aside0.mk (fun (gf : Nat) (u : World) (h : CFld u gf) => pon_calls hx hy f u h)
 rw [hres]
 rw [hon] at K2
 clear hres hx hy hon
 go_enter Try.func12, Try.ntmps12
 go_upto_region 1 with (fail)
 refine wp_at (w2 := (World.alloc (World.alloc w (.cells (pw x y f).toArray 26)) (.cells (pw 0 0 false).toArray 26))) rfl ?_
 obtain ⟨x_0, e_0, h_0, b_0, s_0⟩ := new_PtAt w x y f
 obtain ⟨x_1, e_1, h_1, b_1, s_1⟩ := new_PtAt x_0 0 0 false
 rw [e_0, e_1]
 rw [s_0] at h_1 s_1
 have HB : Aside0 (Below w.heap.size w x_1) := Aside0.mk (bl_both b_0 b_1)
 have HA : Aside0 (PtAt x_1 (w.heap.size) x y f) := Aside0.mk (h_0.on b_1)
 have HR : Aside0 (PtAt x_1 (w.heap.size + 1) 0 0 false) := Aside0.mk h_1
 have HS : Aside0 (w.heap.size + 1 + 1 ≤ x_1.heap.size) := Aside0.mk (Nat.le_of_eq s_1.symm)
 clear e_0 h_0 b_0 s_0 e_1 h_1 b_1 s_1
 obtain ⟨w1, hw_⟩ : ∃ x, x = x_1 := ⟨_, rfl⟩
 subst hw_
 clear x_0
 go_upto_region 2 with (first | ((with_reducible refine gate_dst (N := 5) rfl ?_); refine goesL_ (some 5) rfl rfl Try.func29 (by kernel_rfl) rfl #[] rfl (by (try simp only [List.map_toArray, List.map_cons, List.map_nil]); first | done | rfl) ?_; (with_reducible refine (K1.out _).mono ?_); rintro e u8 ⟨gf, rfl, hF_, hge_, hb_⟩; refine ⟨_, rfl, ?_⟩; have HS0_ := HS; replace HA := Aside0.mk (HA.out.on hb_); replace HR := Aside0.mk (HR.out.on hb_); replace HB := Aside0.mk (bl_on HB.out hb_ HB.out.size); replace HS := Aside0.mk (Nat.le_trans HS.out hb_.size); have HF := Aside0.mk hF_; have HXgf : Aside0 (w.heap.size + 1 + 1 ≤ gf) := Aside0.mk (Nat.le_trans HS0_.out hge_); clear hF_ hge_ HS0_; clear hb_) | ((with_reducible refine gate_dst (N := 4) rfl ?_); refine al_cv rfl _ rfl rfl ?_; intro g4 u9 eg_ hn_ hb_; have HXg4 : Aside0 (w.heap.size + 1 + 1 ≤ g4 ∧ gf < g4) := Aside0.mk (by rw [eg_]; exact ⟨HS.out, HF.out.size⟩); replace HA := Aside0.mk (HA.out.on hb_); replace HR := Aside0.mk (HR.out.on hb_); replace HF := Aside0.mk (HF.out.on hb_); replace HB := Aside0.mk (bl_on HB.out hb_ HB.out.size); replace HS := Aside0.mk (Nat.le_trans HS.out hb_.size); have Hg4 := Aside0.mk hn_; clear hn_ hb_ eg_) | ((with_reducible refine gate_st (y := .tmp 5) rfl ?_); (try simp only [aS]); refine st_cv Hg4.out rfl _ _ rfl rfl rfl ?_; intro u10 hn_ hb_; replace HA := Aside0.mk (HA.out.but hb_ (by have := HXgf.out; have := HXg4.out; omega)); replace HR := Aside0.mk (HR.out.but hb_ (by have := HXgf.out; have := HXg4.out; omega)); replace HF := Aside0.mk (HF.out.but hb_ (by have := HXgf.out; have := HXg4.out; omega)); replace Hg4 := Aside0.mk hn_; replace HB := Aside0.mk (bl_but HB.out hb_ HB.out.size (by have := HXgf.out; have := HXg4.out; omega)); replace HS := Aside0.mk (Nat.le_trans HS.out hb_.size); clear hn_ hb_))
 go_upto_region 3 with (first | ((with_reducible refine gate_dst (N := 6) rfl ?_); refine ld_cv Hg4.out rfl _ rfl rfl ?_) | ((with_reducible refine gate_dst (N := 7) rfl ?_); refine ld_pt HA.out rfl _ rfl rfl ?_) | ((with_reducible refine gate_dst (N := 8) rfl ?_); refine goesL_ (some 8) rfl rfl Try.func30 (by kernel_rfl) rfl #[cvV gf, ptV x y f] rfl (by (try simp only [List.map_toArray, List.map_cons, List.map_nil]); first | done | rfl) ?_; (with_reducible refine (K2.out _ _ (HF.out)).mono ?_); rintro e u11 ⟨rfl, hb_⟩; refine ⟨_, rfl, ?_⟩; replace HA := Aside0.mk (HA.out.on hb_); replace HR := Aside0.mk (HR.out.on hb_); replace Hg4 := Aside0.mk (Hg4.out.on hb_); replace HF := Aside0.mk (HF.out.on hb_); replace HB := Aside0.mk (bl_on HB.out hb_ HB.out.size); replace HS := Aside0.mk (Nat.le_trans HS.out hb_.size); clear hb_))
 go_wp2_with (first | ((with_reducible refine gate_st (y := .tmp 10) rfl ?_); (try simp only [aS]); refine st_pt (x := 0) (y := 0) (f := false) HR.out rfl _ _ rfl rfl rfl ?_; intro u12 hn_ hb_; replace HA := Aside0.mk (HA.out.but hb_ (by have := HXgf.out; have := HXg4.out; omega)); replace Hg4 := Aside0.mk (Hg4.out.but hb_ (by have := HXgf.out; have := HXg4.out; omega)); replace HF := Aside0.mk (HF.out.but hb_ (by have := HXgf.out; have := HXg4.out; omega)); replace HR := Aside0.mk hn_; replace HB := Aside0.mk (bl_but HB.out hb_ HB.out.size (by have := HXgf.out; have := HXg4.out; omega)); replace HS := Aside0.mk (Nat.le_trans HS.out hb_.size); clear hn_ hb_))
 refine bodyPost_ret (v := .tuple #[ptV 0 0 false, .iface 38 (.int .i64 1)]) (results_pt2 rfl rfl rfl HR.out) rfl ⟨rfl, HB.out⟩
theorem pNeg_calls {x y : Nat} (f : Bool) (hx : x < N256) (hy : y < N256) (w : World) :
  Calls Try.prog 12 #[ptV x y f] w fun e w' => e = .returned (ngV x y f) ∧ Below w.heap.size w w' := by
 cases h : onB x y f
 ·exact pneg_bad hx hy h w
 ·exact pneg_ok hx hy h w
end Go.Proofs.Ytkfjhndofbmhoaa
namespace Go.Proofs.Ytkfjhndofbmhoaa
open Go.RowKit Go.Proofs.Ytkfjhndofbmhoaa.Arr Go.Proofs.YtkfjhndofbmhoaaW.PrintWords Go.Proofs.YtkfjhndofbmhoaaW.PrintLast Go.Proofs.YtkfjhndofbmhoaaW.PrintMore
attribute [local go_sem high] eqg_num eqg_num0
set_option linter.unusedVariables false
set_option linter.unusedSimpArgs false
/-- the sum of two points, as the program reckons it -/
noncomputable def adV (x1 y1 : Nat) (f1 : Bool) (x2 y2 : Nat) (f2 : Bool) : Value :=
 let a := liJ x1 y1 f1
 let c := liJ x2 y2 f2
 let s := suJ a.1 a.2.1 a.2.2 c.1 c.2.1 c.2.2
 flJ s.1 s.2.1 s.2.2
/-- what Add answers -/
noncomputable def apV (x1 y1 : Nat) (f1 : Bool) (x2 y2 : Nat) (f2 : Bool) : Value := if onB x1 y1 f1 && onB x2 y2 f2 then .tuple #[adV x1 y1 f1 x2 y2 f2, .nilIface] else .tuple #[ptV 0 0 false, .iface 38 (.int .i64 1)]
set_option maxRecDepth 100000 in
set_option maxHeartbeats 8000000 in
theorem padd_ok {x1 y1 x2 y2 : Nat} {f1 f2 : Bool} (h1 : x1 < N256) (h2 : y1 < N256) (h3 : x2 < N256) (h4 : y2 < N256) (o1 : onB x1 y1 f1 = true) (o2 : onB x2 y2 f2 = true) (w : World) :
  Calls Try.prog 11 #[ptV x1 y1 f1, ptV x2 y2 f2] w fun e w' => e = .returned (apV x1 y1 f1 x2 y2 f2) ∧ Below w.heap.size w w' := by
 have hres : apV x1 y1 f1 x2 y2 f2 = .tuple #[adV x1 y1 f1 x2 y2 f2, .nilIface] := by unfold apV; rw [o1, o2]; rfl
 obtain ⟨bx1, by1⟩ := onB_lt o1
 obtain ⟨bx2, by2⟩ := onB_lt o2
 have la := liJ_lt bx1 by1 f1
 have lc := liJ_lt bx2 by2 f2
 have ad : adV x1 y1 f1 x2 y2 f2 = flJ (suJ (liJ x1 y1 f1).1 (liJ x1 y1 f1).2.1 (liJ x1 y1 f1).2.2 (liJ x2 y2 f2).1 (liJ x2 y2 f2).2.1 (liJ x2 y2 f2).2.2).1 (suJ (liJ x1 y1 f1).1 (liJ x1 y1 f1).2.1 (liJ x1 y1 f1).2.2 (liJ x2 y2 f2).1 (liJ x2 y2 f2).2.1 (liJ x2 y2 f2).2.2).2.1 (suJ (liJ x1 y1 f1).1 (liJ x1 y1 f1).2.1 (liJ x1 y1 f1).2.2 (liJ x2 y2 f2).1 (liJ x2 y2 f2).2.1 (liJ x2 y2 f2).2.2).2.2 := rfl
 have KA := fun u => plift_calls x1 y1 f1 u
 have KB := fun u => plift_calls x2 y2 f2 u
 generalize liJ x1 y1 f1 = ta at *
 generalize liJ x2 y2 f2 = tc at *
 obtain ⟨a1, a2, a3⟩ := ta
 obtain ⟨c1, c2, c3⟩ := tc
 have KA : Aside0 (∀ u, Calls Try.prog 33 #[ptV x1 y1 f1] u fun e w' => e = .returned (thV a1 a2 a3) ∧ Below u.heap.size u w') := Aside0.mk KA
 have KB : Aside0 (∀ u, Calls Try.prog 33 #[ptV x2 y2 f2] u fun e w' => e = .returned (thV c1 c2 c3) ∧ Below u.heap.size u w') := Aside0.mk KB
 have ls := suJ_lt la.1 la.2.1 la.2.2 lc.1 lc.2.1 lc.2.2
 have KS := fun (gf : Nat) (u : World) (h : CFld u gf) => psum_calls la.1 la.2.1 la.2.2 lc.1 lc.2.1 lc.2.2 u h
 dsimp only at ad ls KS
 generalize suJ a1 a2 a3 c1 c2 c3 = ts at *
 obtain ⟨s1, s2, s3⟩ := ts
 have KS : Aside0 (∀ gf u, CFld u gf → Calls Try.prog 32 #[cvV gf, thV a1 a2 a3, thV c1 c2 c3] u fun e w' => e = .returned (thV s1 s2 s3) ∧ Below u.heap.size u w') := Aside0.mk KS
 have KF := fun (gf : Nat) (u : World) (h : CFld u gf) => pflat_calls ls.1 ls.2.1 ls.2.2 u h
 dsimp only at ad KF
 obtain ⟨X, Y, F, ef, bX, bY⟩ := flJ_form s1 s2 s3
 rw [ef] at ad KF
 have KF : Aside0 (∀ gf u, CFld u gf → Calls Try.prog 31 #[cvV gf, thV s1 s2 s3] u fun e w' => e = .returned (ptV X Y F) ∧ Below u.heap.size u w') := Aside0.mk KF
 rw [ad] at hres
 have K1 := Aside0.mk (fun (u : World) => pof_calls u)
 have K2 := Aside0.mk (fun (gf : Nat) (u : World) (h : CFld u gf) => pon_calls h1 h2 f1 u h)
 have K3 := Aside0.mk (fun (gf : Nat) (u : World) (h : CFld u gf) => pon_calls h3 h4 f2 u h)
 rw [hres]
 rw [o1] at K2
 rw [o2] at K3
 clear hres h1 h2 h3 h4 o1 o2 bx1 by1 bx2 by2 la lc ls ad ef bX bY
 go_enter Try.func11, Try.ntmps11
 go_upto_region 1 with (fail)
 refine wp_at (w2 := (World.alloc (World.alloc (World.alloc w (.cells (pw x1 y1 f1).toArray 26)) (.cells (pw x2 y2 f2).toArray 26)) (.cells (pw 0 0 false).toArray 26))) rfl ?_
 obtain ⟨x_0, e_0, h_0, b_0, s_0⟩ := new_PtAt w x1 y1 f1
 obtain ⟨x_1, e_1, h_1, b_1, s_1⟩ := new_PtAt x_0 x2 y2 f2
 obtain ⟨x_2, e_2, h_2, b_2, s_2⟩ := new_PtAt x_1 0 0 false
 rw [e_0, e_1, e_2]
 rw [s_0] at h_1 s_1
 rw [s_1] at h_2 s_2
 have HB : Aside0 (Below w.heap.size w x_2) := Aside0.mk (bl_both (bl_both b_0 b_1) b_2)
 have HA : Aside0 (PtAt x_2 (w.heap.size) x1 y1 f1) := Aside0.mk ((h_0.on b_1).on b_2)
 have HA2 : Aside0 (PtAt x_2 (w.heap.size + 1) x2 y2 f2) := Aside0.mk (h_1.on b_2)
 have HR : Aside0 (PtAt x_2 (w.heap.size + 1 + 1) 0 0 false) := Aside0.mk h_2
 have HS : Aside0 (w.heap.size + 1 + 1 + 1 ≤ x_2.heap.size) := Aside0.mk (Nat.le_of_eq s_2.symm)
 clear e_0 h_0 b_0 s_0 e_1 h_1 b_1 s_1 e_2 h_2 b_2 s_2
 obtain ⟨w1, hw_⟩ : ∃ x, x = x_2 := ⟨_, rfl⟩
 subst hw_
 clear x_0 x_1
 go_upto_region 2 with (first | ((with_reducible refine gate_dst (N := 7) rfl ?_); refine goesL_ (some 7) rfl rfl Try.func29 (by kernel_rfl) rfl #[] rfl (by (try simp only [List.map_toArray, List.map_cons, List.map_nil]); first | done | rfl) ?_; (with_reducible refine (K1.out _).mono ?_); rintro e u1 ⟨gf, rfl, hF_, hge_, hb_⟩; refine ⟨_, rfl, ?_⟩; have HS0_ := HS; replace HA := Aside0.mk (HA.out.on hb_); replace HA2 := Aside0.mk (HA2.out.on hb_); replace HR := Aside0.mk (HR.out.on hb_); replace HB := Aside0.mk (bl_on HB.out hb_ HB.out.size); replace HS := Aside0.mk (Nat.le_trans HS.out hb_.size); have HF := Aside0.mk hF_; have HXgf : Aside0 (w.heap.size + 1 + 1 + 1 ≤ gf) := Aside0.mk (Nat.le_trans HS0_.out hge_); clear hF_ hge_ HS0_; clear hb_) | ((with_reducible refine gate_dst (N := 6) rfl ?_); refine al_cv rfl _ rfl rfl ?_; intro g6 u2 eg_ hn_ hb_; have HXg6 : Aside0 (w.heap.size + 1 + 1 + 1 ≤ g6 ∧ gf < g6) := Aside0.mk (by rw [eg_]; exact ⟨HS.out, HF.out.size⟩); replace HA := Aside0.mk (HA.out.on hb_); replace HA2 := Aside0.mk (HA2.out.on hb_); replace HR := Aside0.mk (HR.out.on hb_); replace HF := Aside0.mk (HF.out.on hb_); replace HB := Aside0.mk (bl_on HB.out hb_ HB.out.size); replace HS := Aside0.mk (Nat.le_trans HS.out hb_.size); have Hg6 := Aside0.mk hn_; clear hn_ hb_ eg_) | ((with_reducible refine gate_st (y := .tmp 7) rfl ?_); (try simp only [aS]); refine st_cv Hg6.out rfl _ _ rfl rfl rfl ?_; intro u3 hn_ hb_; replace HA := Aside0.mk (HA.out.but hb_ (by have := HXgf.out; have := HXg6.out; omega)); replace HA2 := Aside0.mk (HA2.out.but hb_ (by have := HXgf.out; have := HXg6.out; omega)); replace HR := Aside0.mk (HR.out.but hb_ (by have := HXgf.out; have := HXg6.out; omega)); replace HF := Aside0.mk (HF.out.but hb_ (by have := HXgf.out; have := HXg6.out; omega)); replace Hg6 := Aside0.mk hn_; replace HB := Aside0.mk (bl_but HB.out hb_ HB.out.size (by have := HXgf.out; have := HXg6.out; omega)); replace HS := Aside0.mk (Nat.le_trans HS.out hb_.size); clear hn_ hb_))
 go_upto_region 4 with (first | ((with_reducible refine gate_dst (N := 8) rfl ?_); refine ld_cv Hg6.out rfl _ rfl rfl ?_) | ((with_reducible refine gate_dst (N := 9) rfl ?_); refine ld_pt HA.out rfl _ rfl rfl ?_) | ((with_reducible refine gate_dst (N := 10) rfl ?_); refine goesL_ (some 10) rfl rfl Try.func30 (by kernel_rfl) rfl #[cvV gf, ptV x1 y1 f1] rfl (by (try simp only [List.map_toArray, List.map_cons, List.map_nil]); first | done | rfl) ?_; (with_reducible refine (K2.out _ _ (HF.out)).mono ?_); rintro e u4 ⟨rfl, hb_⟩; refine ⟨_, rfl, ?_⟩; replace HA := Aside0.mk (HA.out.on hb_); replace HA2 := Aside0.mk (HA2.out.on hb_); replace HR := Aside0.mk (HR.out.on hb_); replace Hg6 := Aside0.mk (Hg6.out.on hb_); replace HF := Aside0.mk (HF.out.on hb_); replace HB := Aside0.mk (bl_on HB.out hb_ HB.out.size); replace HS := Aside0.mk (Nat.le_trans HS.out hb_.size); clear hb_) | ((with_reducible refine gate_dst (N := 13) rfl ?_); refine ld_cvG Hg6.out (by rfl) _ rfl rfl ?_) | ((with_reducible refine gate_dst (N := 14) rfl ?_); refine ld_ptG HA2.out (by rfl) _ rfl rfl ?_) | ((with_reducible refine gate_dst (N := 15) rfl ?_); refine wpList_step (fun K_ hK_ => ?_); refine goes_ Try.func30 (by kernel_rfl) rfl #[cvV gf, ptV x2 y2 f2] (by rfl) rfl rfl (by (try simp only [List.map_toArray, List.map_cons, List.map_nil]); first | done | rfl) ?_; (with_reducible refine (K3.out _ _ (HF.out)).mono ?_); rintro e u5 ⟨rfl, hb_⟩; refine ⟨_, rfl, ?_⟩; refine hK_ _ _ ?_; clear hK_ K_; replace HA := Aside0.mk (HA.out.on hb_); replace HA2 := Aside0.mk (HA2.out.on hb_); replace HR := Aside0.mk (HR.out.on hb_); replace Hg6 := Aside0.mk (Hg6.out.on hb_); replace HF := Aside0.mk (HF.out.on hb_); replace HB := Aside0.mk (bl_on HB.out hb_ HB.out.size); replace HS := Aside0.mk (Nat.le_trans HS.out hb_.size); clear hb_))
 refine start_ (n := 10) (S := fun w' => Below u5.heap.size u5 w') (ds := [8]) (bs 10 0) (by kernel_rfl) rfl rfl ((Below.refl _ _).drew) (fun hHeld => ?_)
 refine take_ (i := 0) (N := some 20) (a' := ?_) (bs 10 1) rfl rfl (by kernel_rfl) (fun _ _ _ h => h) (yieldsIf_load_mid (by rfl) 58 (.tmp 6) rfl (g6) 0 rfl ((cvl gf)) _ (fun w' hS => (Hg6.out.on hS).range) rfl rfl (rfl)) hHeld ?_ ?_
 rotate_left
 ·simp only [aS, i64_w, i32_w]
  rfl
 refine take_ (i := 1) (N := some 21) (a' := ?_) (bs 10 3) rfl rfl (by kernel_rfl) (fun _ _ _ h => h) (yieldsIf_load_mid (by rfl) 58 (.tmp 6) rfl (g6) 0 rfl ((cvl gf)) _ (fun w' hS => (Hg6.out.on hS).range) rfl rfl (rfl)) hHeld ?_ ?_
 rotate_left
 ·simp only [aS, i64_w, i32_w]
  rfl
 refine take_ (i := 2) (N := some 22) (a' := ?_) (bs 10 7) rfl rfl (by kernel_rfl) (fun _ _ _ h => h) (yieldsIf_load_mid (by rfl) 26 (.tmp 2) rfl (w.heap.size) 0 rfl ((pw x1 y1 f1)) _ (fun w' hS => (HA.out.on hS).range) rfl rfl (rfl)) hHeld ?_ ?_
 rotate_left
 ·simp only [aS, i64_w, i32_w]
  rfl
 refine take_ (i := 4) (N := some 24) (a' := ?_) (bs 10 23) rfl rfl (by kernel_rfl) (fun _ _ _ h => h) (yieldsIf_load_mid (by rfl) 26 (.tmp 3) rfl (w.heap.size + 1) 0 rfl ((pw x2 y2 f2)) _ (fun w' hS => (HA2.out.on hS).range) rfl rfl (rfl)) hHeld ?_ ?_
 rotate_left
 ·simp only [aS, i64_w, i32_w]
  rfl
 refine on1_ 3 (some 23) (bs 10 31) rfl fun K hK => ?_
 refine gs_ Try.func33 #[ptV x1 y1 f1] rfl ?_
 with_reducible refine (KA.out _).mono ?_
 rintro e u6 ⟨rfl, hb_u6⟩
 refine ⟨_, rfl, ?_⟩
 have hq_u6 := bl_on hHeld hb_u6 hHeld.size
 refine hK.out _ _ (hq_u6) (fun hHeld => ?_)
 clear hK K
 refine nm_ (some 23) ?_
 refine on1_ 5 (some 25) (bs 10 63) rfl fun K hK => ?_
 refine gs_ Try.func33 #[ptV x2 y2 f2] rfl ?_
 with_reducible refine (KB.out _).mono ?_
 rintro e u7 ⟨rfl, hb_u7⟩
 refine ⟨_, rfl, ?_⟩
 have hq_u7 := bl_on hHeld hb_u7 hHeld.size
 refine hK.out _ _ (hq_u7) (fun hHeld => ?_)
 clear hK K
 refine nm_ (some 25) ?_
 refine on1_ 6 (some 26) (bs 10 127) rfl fun K hK => ?_
 refine gs_ Try.func32 #[cvV gf, thV a1 a2 a3, thV c1 c2 c3] rfl ?_
 with_reducible refine (KS.out _ _ (HF.out.on hHeld)).mono ?_
 rintro e u8 ⟨rfl, hb_u8⟩
 refine ⟨_, rfl, ?_⟩
 have hq_u8 := bl_on hHeld hb_u8 hHeld.size
 refine hK.out _ _ (hq_u8) (fun hHeld => ?_)
 clear hK K
 refine nm_ (some 26) ?_
 refine on1_ 7 (some 27) (bs 10 255) rfl fun K hK => ?_
 refine gs_ Try.func31 #[cvV gf, thV s1 s2 s3] rfl ?_
 with_reducible refine (KF.out _ _ (HF.out.on hHeld)).mono ?_
 rintro e u9 ⟨rfl, hb_u9⟩
 refine ⟨_, rfl, ?_⟩
 have hq_u9 := bl_on hHeld hb_u9 hHeld.size
 refine hK.out _ _ (hq_u9) (fun hHeld => ?_)
 clear hK K
 refine nm_ (some 27) ?_
 refine last_ (i := 8) (N := none) (bs 10 511) rfl rfl (by kernel_rfl) (by decide) (fun K hK => ?_)
 refine skip_pt (x := X) (y := Y) (f := F) (HR.out.on hHeld) (by rfl) rfl (.tmp 4) (.tmp 27) rfl rfl rfl ?_
 intro q10 hA_q10 hT_q10
 refine hK.out _ _ ?_
 clear hK K
 refine pu_ 9 5 (bs 10 1023) ?_ ?_ ?_ ?_ ?_
 rotate_left
 ·intro w'
  go_simp
  with_reducible rfl
 rotate_left
 ·simp only [aS, i64_w, i32_w]
  rfl
 refine done_ (by kernel_rfl) ?_
 replace HA := Aside0.mk (HA.out.on hHeld)
 replace HA2 := Aside0.mk (HA2.out.on hHeld)
 replace HR := Aside0.mk (HR.out.on hHeld)
 replace Hg6 := Aside0.mk (Hg6.out.on hHeld)
 replace HF := Aside0.mk (HF.out.on hHeld)
 replace HB := Aside0.mk (bl_on HB.out hHeld HB.out.size)
 replace HS := Aside0.mk (Nat.le_trans HS.out hHeld.size)
 replace HA := Aside0.mk (HA.out.but hT_q10 (by have := HXgf.out; have := HXg6.out; omega))
 replace HA2 := Aside0.mk (HA2.out.but hT_q10 (by have := HXgf.out; have := HXg6.out; omega))
 replace Hg6 := Aside0.mk (Hg6.out.but hT_q10 (by have := HXgf.out; have := HXg6.out; omega))
 replace HF := Aside0.mk (HF.out.but hT_q10 (by have := HXgf.out; have := HXg6.out; omega))
 replace HR := Aside0.mk hA_q10
 replace HB := Aside0.mk (bl_but HB.out hT_q10 HB.out.size (by have := HXgf.out; have := HXg6.out; omega))
 replace HS := Aside0.mk (Nat.le_trans HS.out hT_q10.size)
 clear hA_q10 hT_q10 hb_u6 hb_u7 hb_u8 hb_u9 hHeld
 go_wp2
 refine bodyPost_ret (v := .tuple #[ptV X Y F, .nilIface]) (results_pt2 rfl rfl rfl HR.out) rfl ⟨rfl, HB.out⟩
set_option maxRecDepth 100000 in
set_option maxHeartbeats 8000000 in
theorem padd_bad1 {x1 y1 x2 y2 : Nat} {f1 f2 : Bool} (h1 : x1 < N256) (h2 : y1 < N256) (h3 : x2 < N256) (h4 : y2 < N256) (o1 : onB x1 y1 f1 = false) (w : World) :
  Calls Try.prog 11 #[ptV x1 y1 f1, ptV x2 y2 f2] w fun e w' => e = .returned (apV x1 y1 f1 x2 y2 f2) ∧ Below w.heap.size w w' := by
 have hres : apV x1 y1 f1 x2 y2 f2 = .tuple #[ptV 0 0 false, .iface 38 (.int .i64 1)] := by unfold apV; rw [o1]; rfl
 have K1 := Aside0.mk (fun (u : World) => pof_calls u)
 have K2 := Aside0.mk (fun (gf : Nat) (u : World) (h : CFld u gf) => pon_calls h1 h2 f1 u h)
 have K3 := Aside0.mk (fun (gf : Nat) (u : World) (h : CFld u gf) => pon_calls h3 h4 f2 u h)
 rw [hres]
 rw [o1] at K2
 clear hres h1 h2 h3 h4 o1
 go_enter Try.func11, Try.ntmps11
 go_upto_region 1 with (fail)
 refine wp_at (w2 := (World.alloc (World.alloc (World.alloc w (.cells (pw x1 y1 f1).toArray 26)) (.cells (pw x2 y2 f2).toArray 26)) (.cells (pw 0 0 false).toArray 26))) rfl ?_
 obtain ⟨x_0, e_0, h_0, b_0, s_0⟩ := new_PtAt w x1 y1 f1
 obtain ⟨x_1, e_1, h_1, b_1, s_1⟩ := new_PtAt x_0 x2 y2 f2
 obtain ⟨x_2, e_2, h_2, b_2, s_2⟩ := new_PtAt x_1 0 0 false
 rw [e_0, e_1, e_2]
 rw [s_0] at h_1 s_1
 rw [s_1] at h_2 s_2
 have HB : Aside0 (Below w.heap.size w x_2) := Aside0.mk (bl_both (bl_both b_0 b_1) b_2)
 have HA : Aside0 (PtAt x_2 (w.heap.size) x1 y1 f1) := Aside0.mk ((h_0.on b_1).on b_2)
 have HA2 : Aside0 (PtAt x_2 (w.heap.size + 1) x2 y2 f2) := Aside0.mk (h_1.on b_2)
 have HR : Aside0 (PtAt x_2 (w.heap.size + 1 + 1) 0 0 false) := Aside0.mk h_2
 have HS : Aside0 (w.heap.size + 1 + 1 + 1 ≤ x_2.heap.size) := Aside0.mk (Nat.le_of_eq s_2.symm)
 clear e_0 h_0 b_0 s_0 e_1 h_1 b_1 s_1 e_2 h_2 b_2 s_2
 obtain ⟨w1, hw_⟩ : ∃ x, x = x_2 := ⟨_, rfl⟩
 subst hw_
 clear x_0 x_1
 go_upto_region 2 with (first | ((with_reducible refine gate_dst (N := 7) rfl ?_); refine goesL_ (some 7) rfl rfl Try.func29 (by kernel_rfl) rfl #[] rfl (by (try simp only [List.map_toArray, List.map_cons, List.map_nil]); first | done | rfl) ?_; (with_reducible refine (K1.out _).mono ?_); rintro e u11 ⟨gf, rfl, hF_, hge_, hb_⟩; refine ⟨_, rfl, ?_⟩; have HS0_ := HS; replace HA := Aside0.mk (HA.out.on hb_); replace HA2 := Aside0.mk (HA2.out.on hb_); replace HR := Aside0.mk (HR.out.on hb_); replace HB := Aside0.mk (bl_on HB.out hb_ HB.out.size); replace HS := Aside0.mk (Nat.le_trans HS.out hb_.size); have HF := Aside0.mk hF_; have HXgf : Aside0 (w.heap.size + 1 + 1 + 1 ≤ gf) := Aside0.mk (Nat.le_trans HS0_.out hge_); clear hF_ hge_ HS0_; clear hb_) | ((with_reducible refine gate_dst (N := 6) rfl ?_); refine al_cv rfl _ rfl rfl ?_; intro g6 u12 eg_ hn_ hb_; have HXg6 : Aside0 (w.heap.size + 1 + 1 + 1 ≤ g6 ∧ gf < g6) := Aside0.mk (by rw [eg_]; exact ⟨HS.out, HF.out.size⟩); replace HA := Aside0.mk (HA.out.on hb_); replace HA2 := Aside0.mk (HA2.out.on hb_); replace HR := Aside0.mk (HR.out.on hb_); replace HF := Aside0.mk (HF.out.on hb_); replace HB := Aside0.mk (bl_on HB.out hb_ HB.out.size); replace HS := Aside0.mk (Nat.le_trans HS.out hb_.size); have Hg6 := Aside0.mk hn_; clear hn_ hb_ eg_) | ((with_reducible refine gate_st (y := .tmp 7) rfl ?_); (try simp only [aS]); refine st_cv Hg6.out rfl _ _ rfl rfl rfl ?_; intro u13 hn_ hb_; replace HA := Aside0.mk (HA.out.but hb_ (by have := HXgf.out; have := HXg6.out; omega)); replace HA2 := Aside0.mk (HA2.out.but hb_ (by have := HXgf.out; have := HXg6.out; omega)); replace HR := Aside0.mk (HR.out.but hb_ (by have := HXgf.out; have := HXg6.out; omega)); replace HF := Aside0.mk (HF.out.but hb_ (by have := HXgf.out; have := HXg6.out; omega)); replace Hg6 := Aside0.mk hn_; replace HB := Aside0.mk (bl_but HB.out hb_ HB.out.size (by have := HXgf.out; have := HXg6.out; omega)); replace HS := Aside0.mk (Nat.le_trans HS.out hb_.size); clear hn_ hb_))
 go_upto_region 3 with (first | ((with_reducible refine gate_dst (N := 8) rfl ?_); refine ld_cv Hg6.out rfl _ rfl rfl ?_) | ((with_reducible refine gate_dst (N := 9) rfl ?_); refine ld_pt HA.out rfl _ rfl rfl ?_) | ((with_reducible refine gate_dst (N := 10) rfl ?_); refine goesL_ (some 10) rfl rfl Try.func30 (by kernel_rfl) rfl #[cvV gf, ptV x1 y1 f1] rfl (by (try simp only [List.map_toArray, List.map_cons, List.map_nil]); first | done | rfl) ?_; (with_reducible refine (K2.out _ _ (HF.out)).mono ?_); rintro e u14 ⟨rfl, hb_⟩; refine ⟨_, rfl, ?_⟩; replace HA := Aside0.mk (HA.out.on hb_); replace HA2 := Aside0.mk (HA2.out.on hb_); replace HR := Aside0.mk (HR.out.on hb_); replace Hg6 := Aside0.mk (Hg6.out.on hb_); replace HF := Aside0.mk (HF.out.on hb_); replace HB := Aside0.mk (bl_on HB.out hb_ HB.out.size); replace HS := Aside0.mk (Nat.le_trans HS.out hb_.size); clear hb_) | ((with_reducible refine gate_dst (N := 13) rfl ?_); refine ld_cvG Hg6.out (by rfl) _ rfl rfl ?_) | ((with_reducible refine gate_dst (N := 14) rfl ?_); refine ld_ptG HA2.out (by rfl) _ rfl rfl ?_) | ((with_reducible refine gate_dst (N := 15) rfl ?_); refine wpList_step (fun K_ hK_ => ?_); refine goes_ Try.func30 (by kernel_rfl) rfl #[cvV gf, ptV x2 y2 f2] (by rfl) rfl rfl (by (try simp only [List.map_toArray, List.map_cons, List.map_nil]); first | done | rfl) ?_; (with_reducible refine (K3.out _ _ (HF.out)).mono ?_); rintro e u15 ⟨rfl, hb_⟩; refine ⟨_, rfl, ?_⟩; refine hK_ _ _ ?_; clear hK_ K_; replace HA := Aside0.mk (HA.out.on hb_); replace HA2 := Aside0.mk (HA2.out.on hb_); replace HR := Aside0.mk (HR.out.on hb_); replace Hg6 := Aside0.mk (Hg6.out.on hb_); replace HF := Aside0.mk (HF.out.on hb_); replace HB := Aside0.mk (bl_on HB.out hb_ HB.out.size); replace HS := Aside0.mk (Nat.le_trans HS.out hb_.size); clear hb_))
 go_wp2_with (first | ((with_reducible refine gate_st (y := .tmp 18) rfl ?_); (try simp only [aS]); refine st_pt (x := 0) (y := 0) (f := false) HR.out rfl _ _ rfl rfl rfl ?_; intro u16 hn_ hb_; replace HA := Aside0.mk (HA.out.but hb_ (by have := HXgf.out; have := HXg6.out; omega)); replace HA2 := Aside0.mk (HA2.out.but hb_ (by have := HXgf.out; have := HXg6.out; omega)); replace Hg6 := Aside0.mk (Hg6.out.but hb_ (by have := HXgf.out; have := HXg6.out; omega)); replace HF := Aside0.mk (HF.out.but hb_ (by have := HXgf.out; have := HXg6.out; omega)); replace HR := Aside0.mk hn_; replace HB := Aside0.mk (bl_but HB.out hb_ HB.out.size (by have := HXgf.out; have := HXg6.out; omega)); replace HS := Aside0.mk (Nat.le_trans HS.out hb_.size); clear hn_ hb_))
 refine bodyPost_ret (v := .tuple #[ptV 0 0 false, .iface 38 (.int .i64 1)]) (results_pt2 rfl rfl rfl HR.out) rfl ⟨rfl, HB.out⟩
set_option maxRecDepth 100000 in
set_option maxHeartbeats 8000000 in
theorem padd_bad2 {x1 y1 x2 y2 : Nat} {f1 f2 : Bool} (h1 : x1 < N256) (h2 : y1 < N256) (h3 : x2 < N256) (h4 : y2 < N256) (o1 : onB x1 y1 f1 = true) (o2 : onB x2 y2 f2 = false) (w : World) :
  Calls Try.prog 11 #[ptV x1 y1 f1, ptV x2 y2 f2] w fun e w' => e = .returned (apV x1 y1 f1 x2 y2 f2) ∧ Below w.heap.size w w' := by
 have hres : apV x1 y1 f1 x2 y2 f2 = .tuple #[ptV 0 0 false, .iface 38 (.int .i64 1)] := by unfold apV; rw [o1, o2]; rfl
 have K1 := Aside0.mk (fun (u : World) => pof_calls u)
 have K2 := Aside0.mk (fun (gf : Nat) (u : World) (h : CFld u gf) => pon_calls h1 h2 f1 u h)
 have K3 := Aside0.mk (fun (gf : Nat) (u : World) (h : CFld u gf) => pon_calls h3 h4 f2 u h)
 rw [hres]
 rw [o1] at K2
 rw [o2] at K3
 clear hres h1 h2 h3 h4 o1 o2
 go_enter Try.func11, Try.ntmps11
 go_upto_region 1 with (fail)
 refine wp_at (w2 := (World.alloc (World.alloc (World.alloc w (.cells (pw x1 y1 f1).toArray 26)) (.cells (pw x2 y2 f2).toArray 26)) (.cells (pw 0 0 false).toArray 26))) rfl ?_
 obtain ⟨x_0, e_0, h_0, b_0, s_0⟩ := new_PtAt w x1 y1 f1
 obtain ⟨x_1, e_1, h_1, b_1, s_1⟩ := new_PtAt x_0 x2 y2 f2
 obtain ⟨x_2, e_2, h_2, b_2, s_2⟩ := new_PtAt x_1 0 0 false
 rw [e_0, e_1, e_2]
 rw [s_0] at h_1 s_1
 rw [s_1] at h_2 s_2
 have HB : Aside0 (Below w.heap.size w x_2) := Aside0.mk (bl_both (bl_both b_0 b_1) b_2)
 have HA : Aside0 (PtAt x_2 (w.heap.size) x1 y1 f1) := Aside0.mk ((h_0.on b_1).on b_2)
 have HA2 : Aside0 (PtAt x_2 (w.heap.size + 1) x2 y2 f2) := Aside0.mk (h_1.on b_2)
 have HR : Aside0 (PtAt x_2 (w.heap.size + 1 + 1) 0 0 false) := Aside0.mk h_2
 have HS : Aside0 (w.heap.size + 1 + 1 + 1 ≤ x_2.heap.size) := Aside0.mk (Nat.le_of_eq s_2.symm)
 clear e_0 h_0 b_0 s_0 e_1 h_1 b_1 s_1 e_2 h_2 b_2 s_2
 obtain ⟨w1, hw_⟩ : ∃ x, x = x_2 := ⟨_, rfl⟩
 subst hw_
 clear x_0 x_1
 go_upto_region 2 with (first | ((with_reducible refine gate_dst (N := 7) rfl ?_); refine goesL_ (some 7) rfl rfl Try.func29 (by kernel_rfl) rfl #[] rfl (by (try simp only [List.map_toArray, List.map_cons, List.map_nil]); first | done | rfl) ?_; (with_reducible refine (K1.out _).mono ?_); rintro e u17 ⟨gf, rfl, hF_, hge_, hb_⟩; refine ⟨_, rfl, ?_⟩; have HS0_ := HS; replace HA := Aside0.mk (HA.out.on hb_); replace HA2 := Aside0.mk (HA2.out.on hb_); replace HR := Aside0.mk (HR.out.on hb_); replace HB := Aside0.mk (bl_on HB.out hb_ HB.out.size); replace HS := Aside0.mk (Nat.le_trans HS.out hb_.size); have HF := Aside0.mk hF_; have HXgf : Aside0 (w.heap.size + 1 + 1 + 1 ≤ gf) := Aside0.mk (Nat.le_trans HS0_.out hge_); clear hF_ hge_ HS0_; clear hb_) | ((with_reducible refine gate_dst (N := 6) rfl ?_); refine al_cv rfl _ rfl rfl ?_; intro g6 u18 eg_ hn_ hb_; have HXg6 : Aside0 (w.heap.size + 1 + 1 + 1 ≤ g6 ∧ gf < g6) := Aside0.mk (by rw [eg_]; exact ⟨HS.out, HF.out.size⟩); replace HA := Aside0.mk (HA.out.on hb_); replace HA2 := Aside0.mk (HA2.out.on hb_); replace HR := Aside0.mk (HR.out.on hb_); replace HF := Aside0.mk (HF.out.on hb_); replace HB := Aside0.mk (bl_on HB.out hb_ HB.out.size); replace HS := Aside0.mk (Nat.le_trans HS.out hb_.size); have Hg6 := Aside0.mk hn_; clear hn_ hb_ eg_) | ((with_reducible refine gate_st (y := .tmp 7) rfl ?_); (try simp only [aS]); refine st_cv Hg6.out rfl _ _ rfl rfl rfl ?_; intro u19 hn_ hb_; replace HA := Aside0.mk (HA.out.but hb_ (by have := HXgf.out; have := HXg6.out; omega)); replace HA2 := Aside0.mk (HA2.out.but hb_ (by have := HXgf.out; have := HXg6.out; omega)); replace HR := Aside0.mk (HR.out.but hb_ (by have := HXgf.out; have := HXg6.out; omega)); replace HF := Aside0.mk (HF.out.but hb_ (by have := HXgf.out; have := HXg6.out; omega)); replace Hg6 := Aside0.mk hn_; replace HB := Aside0.mk (bl_but HB.out hb_ HB.out.size (by have := HXgf.out; have := HXg6.out; omega)); replace HS := Aside0.mk (Nat.le_trans HS.out hb_.size); clear hn_ hb_))
 go_upto_region 3 with (first | ((with_reducible refine gate_dst (N := 8) rfl ?_); refine ld_cv Hg6.out rfl _ rfl rfl ?_) | ((with_reducible refine gate_dst (N := 9) rfl ?_); refine ld_pt HA.out rfl _ rfl rfl ?_) | ((with_reducible refine gate_dst (N := 10) rfl ?_); refine goesL_ (some 10) rfl rfl Try.func30 (by kernel_rfl) rfl #[cvV gf, ptV x1 y1 f1] rfl (by (try simp only [List.map_toArray, List.map_cons, List.map_nil]); first | done | rfl) ?_; (with_reducible refine (K2.out _ _ (HF.out)).mono ?_); rintro e u20 ⟨rfl, hb_⟩; refine ⟨_, rfl, ?_⟩; replace HA := Aside0.mk (HA.out.on hb_); replace HA2 := Aside0.mk (HA2.out.on hb_); replace HR := Aside0.mk (HR.out.on hb_); replace Hg6 := Aside0.mk (Hg6.out.on hb_); replace HF := Aside0.mk (HF.out.on hb_); replace HB := Aside0.mk (bl_on HB.out hb_ HB.out.size); replace HS := Aside0.mk (Nat.le_trans HS.out hb_.size); clear hb_) | ((with_reducible refine gate_dst (N := 13) rfl ?_); refine ld_cvG Hg6.out (by rfl) _ rfl rfl ?_) | ((with_reducible refine gate_dst (N := 14) rfl ?_); refine ld_ptG HA2.out (by rfl) _ rfl rfl ?_) | ((with_reducible refine gate_dst (N := 15) rfl ?_); refine wpList_step (fun K_ hK_ => ?_); refine goes_ Try.func30 (by kernel_rfl) rfl #[cvV gf, ptV x2 y2 f2] (by rfl) rfl rfl (by (try simp only [List.map_toArray, List.map_cons, List.map_nil]); first | done | rfl) ?_; (with_reducible refine (K3.out _ _ (HF.out)).mono ?_); rintro e u21 ⟨rfl, hb_⟩; refine ⟨_, rfl, ?_⟩; refine hK_ _ _ ?_; clear hK_ K_; replace HA := Aside0.mk (HA.out.on hb_); replace HA2 := Aside0.mk (HA2.out.on hb_); replace HR := Aside0.mk (HR.out.on hb_); replace Hg6 := Aside0.mk (Hg6.out.on hb_); replace HF := Aside0.mk (HF.out.on hb_); replace HB := Aside0.mk (bl_on HB.out hb_ HB.out.size); replace HS := Aside0.mk (Nat.le_trans HS.out hb_.size); clear hb_))
 go_wp2_with (first | ((with_reducible refine gate_st (y := .tmp 18) rfl ?_); (try simp only [aS]); refine st_pt (x := 0) (y := 0) (f := false) HR.out rfl _ _ rfl rfl rfl ?_; intro u22 hn_ hb_; replace HA := Aside0.mk (HA.out.but hb_ (by have := HXgf.out; have := HXg6.out; omega)); replace HA2 := Aside0.mk (HA2.out.but hb_ (by have := HXgf.out; have := HXg6.out; omega)); replace Hg6 := Aside0.mk (Hg6.out.but hb_ (by have := HXgf.out; have := HXg6.out; omega)); replace HF := Aside0.mk (HF.out.but hb_ (by have := HXgf.out; have := HXg6.out; omega)); replace HR := Aside0.mk hn_; replace HB := Aside0.mk (bl_but HB.out hb_ HB.out.size (by have := HXgf.out; have := HXg6.out; omega)); replace HS := Aside0.mk (Nat.le_trans HS.out hb_.size); clear hn_ hb_))
 refine bodyPost_ret (v := .tuple #[ptV 0 0 false, .iface 38 (.int .i64 1)]) (results_pt2 rfl rfl rfl HR.out) rfl ⟨rfl, HB.out⟩
theorem pAdd_calls {x1 y1 x2 y2 : Nat} {f1 f2 : Bool} (h1 : x1 < N256) (h2 : y1 < N256) (h3 : x2 < N256) (h4 : y2 < N256) (w : World) :
  Calls Try.prog 11 #[ptV x1 y1 f1, ptV x2 y2 f2] w fun e w' => e = .returned (apV x1 y1 f1 x2 y2 f2) ∧ Below w.heap.size w w' := by
 cases o1 : onB x1 y1 f1
 ·exact padd_bad1 h1 h2 h3 h4 o1 w
 ·cases o2 : onB x2 y2 f2
  ·exact padd_bad2 h1 h2 h3 h4 o1 o2 w
  ·exact padd_ok h1 h2 h3 h4 o1 o2 w
end Go.Proofs.Ytkfjhndofbmhoaa
