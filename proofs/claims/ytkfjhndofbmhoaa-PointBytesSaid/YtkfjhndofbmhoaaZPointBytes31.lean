/- What the proof of PointBytes is made of, part 31. -/
import Derived.Test.YtkfjhndofbmhoaaZPointBytes27
import Derived.Test.YtkfjhndofbmhoaaZPointBytes14
import Derived.Test.YtkfjhndofbmhoaaZPointBytesh
namespace Go.Proofs.Ytkfjhndofbmhoaa
open Go.RowKit Go.Proofs.Ytkfjhndofbmhoaa.Arr Go.Proofs.YtkfjhndofbmhoaaW.PrintWords Go.Proofs.YtkfjhndofbmhoaaW.PrintLast Go.Proofs.YtkfjhndofbmhoaaW.PrintMore
set_option linter.unusedVariables false
set_option linter.unusedSimpArgs false
set_option maxRecDepth 100000 in
set_option maxHeartbeats 8000000 in
theorem pof_calls (w : World) : Calls Try.prog 29 #[] w fun e w' => ∃ gf, e = .returned (cvV gf) ∧ CFld w' gf ∧ w.heap.size ≤ gf ∧ Below w.heap.size w w' := by
 have HP := Aside0.mk (fun u => cp_calls u)
 have HN := Aside0.mk (fun u => fnew_calls pP u pP_lt pP_odd pP_one)
 go_enter Try.func29, Try.ntmps29
 go_upto_region 1 with (fail)
 refine wp_at (w2 := (World.alloc w (.cells cvz.toArray 58))) rfl ?_
 obtain ⟨w1, e_0, h_0, b_0, s_0⟩ := new_CzAt w
 rw [e_0]
 have HR := Aside0.mk h_0
 have HB := Aside0.mk b_0
 clear e_0 h_0 b_0 s_0
 go_wp2_with (first
  | ((with_reducible refine gate_callee (f := 14) rfl ?_); refine goesL_ (some 4) rfl rfl Try.func14 (by kernel_rfl) rfl #[] rfl (by (try simp only [List.map_toArray, List.map_cons, List.map_nil]); first | done | rfl) ?_; (with_reducible refine (HP.out _).mono ?_); rintro e u1 ⟨rfl, hb_⟩; replace HR := Aside0.mk (HR.out.on hb_); replace HB := Aside0.mk (bl_on HB.out hb_ HB.out.size); clear hb_; refine ⟨_, rfl, ?_⟩)
  | ((with_reducible refine gate_callee (f := 50) rfl ?_); refine goesL_ (some 5) rfl rfl Try.func50 (by kernel_rfl) rfl #[numV pP] rfl (by (try simp only [List.map_toArray, List.map_cons, List.map_nil]); first | done | rfl) ?_; (with_reducible refine (HN.out _).mono ?_); rintro e u2 ⟨gf, rfl, hge_, hF_, hb_⟩; have HGE : Aside0 (w.heap.size ≤ gf ∧ w.heap.size < gf) := Aside0.mk (by have h1 := HR.out.size; have h2 := HB.out.size; omega); have HF : Aside0 (CFld u2 gf) := Aside0.mk hF_; replace HR := Aside0.mk (HR.out.on hb_); replace HB := Aside0.mk (bl_on HB.out hb_ HB.out.size); clear hb_ hge_ hF_; refine ⟨_, rfl, ?_⟩)
  | ((with_reducible refine gate_st (y := .tmp 19) rfl ?_); refine st_cv (gf := gf) HR.out rfl _ _ rfl rfl rfl ?_; intro u3 hn_ hb_; have HC := Aside0.mk hn_; replace HF := Aside0.mk (HF.out.but hb_ (by have := HGE.out; omega)); replace HB := Aside0.mk (bl_but HB.out hb_ HB.out.size (Nat.le_refl _)); clear hn_ hb_))
 exact bodyPost_ret (v := cvV gf) (results_cv rfl rfl HC.out) rfl ⟨gf, rfl, HF.out, HGE.out.1, HB.out⟩
set_option maxRecDepth 100000 in
set_option maxHeartbeats 8000000 in
theorem pOn_calls {x y : Nat} (hx : x < N256) (hy : y < N256) (f : Bool) (w : World) :
  Calls Try.prog 10 #[ptV x y f] w fun e w' => e = .returned (.bool (onB x y f)) ∧ Below w.heap.size w w' := by
 have HO := Aside0.mk (fun u => pof_calls u)
 have HC := Aside0.mk (fun (gf : Nat) (u : World) (h : CFld u gf) => pon_calls hx hy f u h)
 generalize onB x y f = D at *
 clear hx hy
 go_enter Try.func10, Try.ntmps10
 go_upto_region 1 with (fail)
 refine wp_at (w2 := (World.alloc w (.cells (pw x y f).toArray 26))) rfl ?_
 obtain ⟨x_0, e_0, h_0, b_0, s_0⟩ := new_PtAt w x y f
 rw [e_0]
 have HB : Aside0 (Below w.heap.size w x_0) := Aside0.mk b_0
 have HA : Aside0 (PtAt x_0 (w.heap.size) x y f) := Aside0.mk h_0
 have HS : Aside0 (w.heap.size + 1 ≤ x_0.heap.size) := Aside0.mk (Nat.le_of_eq s_0.symm)
 clear e_0 h_0 b_0 s_0
 obtain ⟨w1, hw_⟩ : ∃ x, x = x_0 := ⟨_, rfl⟩
 subst hw_
 refine start_ (n := 4) (S := fun w' => Below w1.heap.size w1 w') (ds := []) #[false, false, false, false] (by kernel_rfl) rfl rfl ((Below.refl _ _).drew) (fun hHeld => ?_)
 refine take_ (i := 1) (N := some 4) (a' := ?_) #[false, true, false, false] rfl rfl (by kernel_rfl) (fun _ _ _ h => h) (yieldsIf_load_mid (by rfl) 26 (.tmp 1) rfl w.heap.size 0 rfl ((pw x y f)) _ (fun w' hS => (HA.out.on hS).range) rfl rfl (rfl)) hHeld ?_ ?_
 rotate_left
 ·simp only [aS, i64_w, i32_w]
  rfl
 refine on1_ 0 (some 3) #[true, true, false, false] rfl fun K hK => ?_
 refine goes_ Try.func29 (by kernel_rfl) rfl #[] (by rfl) rfl rfl (by first | rfl | simp only [List.map_toArray, List.map_cons, List.map_nil]) ?_
 with_reducible refine (HO.out _).mono ?_
 rintro e u1 ⟨gf, rfl, hF_, hge_, hb_⟩
 refine ⟨_, rfl, ?_⟩
 have HF := Aside0.mk hF_
 refine hK.out _ _ (bl_on hHeld hb_ hHeld.size) (fun hHeld => ?_)
 clear hK K
 refine nm_ (some 3) ?_
 refine on1_ 2 (some 5) #[true, true, true, false] rfl fun K hK => ?_
 refine gs_ Try.func30 #[cvV gf, ptV x y f] rfl ?_
 with_reducible refine (HC.out _ _ HF.out).mono ?_
 rintro e u2 ⟨rfl, hb2⟩
 refine ⟨_, rfl, ?_⟩
 refine hK.out _ _ (bl_on hHeld hb2 hHeld.size) (fun hHeld => ?_)
 clear hK K
 refine nm_ (some 5) ?_
 refine pu_ 3 2 #[true, true, true, true] ?_ ?_ ?_ ?_ ?_
 rotate_left
 ·intro w'
  go_simp
  with_reducible rfl
 rotate_left
 ·simp only [aS, i64_w, i32_w]
  rfl
 refine done_ (by kernel_rfl) ?_
 go_wp2
 go_ret
 exact ⟨rfl, bl_on HB.out hHeld HB.out.size⟩
end Go.Proofs.Ytkfjhndofbmhoaa
namespace Go.Proofs.Ytkfjhndofbmhoaa
open Go.RowKit Go.Proofs.Ytkfjhndofbmhoaa.Arr Go.Proofs.YtkfjhndofbmhoaaW.PrintWords Go.Proofs.YtkfjhndofbmhoaaW.PrintLast Go.Proofs.YtkfjhndofbmhoaaW.PrintMore
attribute [local go_sem high] eqg_num eqg_num0
set_option linter.unusedVariables false
set_option linter.unusedSimpArgs false
theorem msp_lt (a b : Nat) : msp a b < pP := mod_p _
theorem mmp_lt (a b : Nat) : mmp a b < pP := mod_p _
theorem twJ_lt (x y z : Nat) : (twJ x y z).1 < pP ∧ (twJ x y z).2.1 < pP ∧ (twJ x y z).2.2 < pP := by
 dsimp only [twJ]
 exact ⟨msp_lt _ _, msp_lt _ _, msp_lt _ _⟩
def Lt3 (t : Nat × Nat × Nat) : Prop := t.1 < pP ∧ t.2.1 < pP ∧ t.2.2 < pP
theorem suJ_lt {x1 y1 z1 x2 y2 z2 : Nat} (hx1 : x1 < pP) (hy1 : y1 < pP) (hz1 : z1 < pP) (hx2 : x2 < pP) (hy2 : y2 < pP) (hz2 : z2 < pP) : (suJ x1 y1 z1 x2 y2 z2).1 < pP ∧ (suJ x1 y1 z1 x2 y2 z2).2.1 < pP ∧ (suJ x1 y1 z1 x2 y2 z2).2.2 < pP := by
 show Lt3 (suJ x1 y1 z1 x2 y2 z2)
 unfold suJ
 by_cases h1 : z1 = 0
 ·rw [if_pos h1]
  exact ⟨hx2, hy2, hz2⟩
 ·rw [if_neg h1]
  by_cases h2 : z2 = 0
  ·rw [if_pos h2]
   exact ⟨hx1, hy1, hz1⟩
  ·rw [if_neg h2]
   generalize hu : mmp x1 (mmp z2 z2) = u
   generalize hv : mmp y1 (mmp (mmp z2 z2) z2) = v
   dsimp only
   generalize msp (mmp x2 (mmp z1 z1)) u = h
   generalize msp (mmp y2 (mmp (mmp z1 z1) z1)) v = r
   by_cases h3 : h = 0
   ·rw [if_pos h3]
    by_cases h4 : r = 0
    ·rw [if_pos h4]
     exact twJ_lt x1 y1 z1
    ·rw [if_neg h4]
     exact ⟨pP_pos, pP_pos, pP_pos⟩
   ·rw [if_neg h3]
    exact ⟨msp_lt _ _, msp_lt _ _, mmp_lt _ _⟩
theorem liJ_lt {x y : Nat} (hx : x < pP) (hy : y < pP) (f : Bool) : (liJ x y f).1 < pP ∧ (liJ x y f).2.1 < pP ∧ (liJ x y f).2.2 < pP := by
 cases f
 ·exact ⟨hx, hy, pP_one⟩
 ·exact ⟨pP_pos, pP_pos, pP_pos⟩
theorem onB_lt {x y : Nat} {f : Bool} (h : onB x y f = true) : x < pP ∧ y < pP := by
 cases f
 ·unfold onB at h
  rw [if_neg (by decide)] at h
  have h2 := of_decide_eq_true h
  exact ⟨h2.1, h2.2.1⟩
 ·unfold onB at h
  rw [if_pos rfl] at h
  obtain ⟨rfl, rfl⟩ := of_decide_eq_true h
  exact ⟨pP_pos, pP_pos⟩
theorem flJ_form (x y z : Nat) : ∃ X Y F, flJ x y z = ptV X Y F ∧ X < pP ∧ Y < pP := by
 unfold flJ
 split
 ·exact ⟨0, 0, true, rfl, pP_pos, pP_pos⟩
 ·exact ⟨_, _, false, rfl, mmp_lt _ _, mmp_lt _ _⟩
/-- what Neg answers -/
def ngV (x y : Nat) (f : Bool) : Value := if onB x y f then .tuple #[ptV x (msp 0 y) f, .nilIface] else .tuple #[ptV 0 0 false, .iface 38 (.int .i64 1)]
set_option maxRecDepth 100000 in
set_option maxHeartbeats 8000000 in
theorem pneg_ok {x y : Nat} {f : Bool} (hx : x < N256) (hy : y < N256) (hon : onB x y f = true) (w : World) :
  Calls Try.prog 12 #[ptV x y f] w fun e w' => e = .returned (ngV x y f) ∧ Below w.heap.size w w' := by
 obtain ⟨b_x, b_y⟩ := onB_lt hon
 have hres : ngV x y f = .tuple #[ptV x (msp 0 y) f, .nilIface] := by unfold ngV; rw [hon]; rfl
 obtain ⟨t1, e_t1⟩ : ∃ t, t = (0 + pP - y) % pP := ⟨_, rfl⟩
 have b_t1 : t1 < pP := by rw [e_t1]; exact mod_p _
 have K1 := Aside0.mk (fun (u : World) => pof_calls u)
 have K2 := Aside0.mk (fun (gf : Nat) (u : World) (h : CFld u gf) => pon_calls hx hy f u h)
 have K3 := Aside0.mk (fun (gf : Nat) (u : World) (h : CFld u gf) => psub_calls (show 0 < pP by decide +kernel) b_y u h)
 rw [← e_t1] at K3
 rw [hres]
 rw [hon] at K2
 have e3 : msp 0 y = t1 := by rw [e_t1]; rfl
 rw [e3]
 clear e3
 clear e_t1 b_t1 hres hx hy hon b_x b_y
 go_enter Try.func12, Try.ntmps12
 go_upto_region 1 with (fail)
 refine wp_at (w2 := (World.alloc (World.alloc w (.cells (pw x y f).toArray 26)) (.cells (pw 0 0 false).toArray 26))) rfl ?_
 obtain ⟨x_0, e_0, h_0, b_0, s_0⟩ := new_PtAt w x y f
 obtain ⟨x_1, e_1, h_1, b_1, s_1⟩ := new_PtAt x_0 0 0 false
 rw [e_0, e_1]
 rw [s_0] at h_1 s_1
 have HB : Aside0 (Below w.heap.size w x_1) := Aside0.mk (bl_both b_0 b_1)
 have HA : Aside0 (PtAt x_1 (w.heap.size) x y f) := Aside0.mk (h_0.on b_1)
 have HR : Aside0 (PtAt x_1 (w.heap.size + 1) 0 0 false) := Aside0.mk h_1
 have HS : Aside0 (w.heap.size + 1 + 1 ≤ x_1.heap.size) := Aside0.mk (Nat.le_of_eq s_1.symm)
 clear e_0 h_0 b_0 s_0 e_1 h_1 b_1 s_1
 obtain ⟨w1, hw_⟩ : ∃ x, x = x_1 := ⟨_, rfl⟩
 subst hw_
 clear x_0
 go_upto_region 2 with (first | ((with_reducible refine gate_dst (N := 5) rfl ?_); refine goesL_ (some 5) rfl rfl Try.func29 (by kernel_rfl) rfl #[] rfl (by (try simp only [List.map_toArray, List.map_cons, List.map_nil]); first | done | rfl) ?_; (with_reducible refine (K1.out _).mono ?_); rintro e u1 ⟨gf, rfl, hF_, hge_, hb_⟩; refine ⟨_, rfl, ?_⟩; have HS0_ := HS; replace HA := Aside0.mk (HA.out.on hb_); replace HR := Aside0.mk (HR.out.on hb_); replace HB := Aside0.mk (bl_on HB.out hb_ HB.out.size); replace HS := Aside0.mk (Nat.le_trans HS.out hb_.size); have HF := Aside0.mk hF_; have HXgf : Aside0 (w.heap.size + 1 + 1 ≤ gf) := Aside0.mk (Nat.le_trans HS0_.out hge_); clear hF_ hge_ HS0_; clear hb_) | ((with_reducible refine gate_dst (N := 4) rfl ?_); refine al_cv rfl _ rfl rfl ?_; intro g4 u2 eg_ hn_ hb_; have HXg4 : Aside0 (w.heap.size + 1 + 1 ≤ g4 ∧ gf < g4) := Aside0.mk (by rw [eg_]; exact ⟨HS.out, HF.out.size⟩); replace HA := Aside0.mk (HA.out.on hb_); replace HR := Aside0.mk (HR.out.on hb_); replace HF := Aside0.mk (HF.out.on hb_); replace HB := Aside0.mk (bl_on HB.out hb_ HB.out.size); replace HS := Aside0.mk (Nat.le_trans HS.out hb_.size); have Hg4 := Aside0.mk hn_; clear hn_ hb_ eg_) | ((with_reducible refine gate_st (y := .tmp 5) rfl ?_); (try simp only [aS]); refine st_cv Hg4.out rfl _ _ rfl rfl rfl ?_; intro u3 hn_ hb_; replace HA := Aside0.mk (HA.out.but hb_ (by have := HXgf.out; have := HXg4.out; omega)); replace HR := Aside0.mk (HR.out.but hb_ (by have := HXgf.out; have := HXg4.out; omega)); replace HF := Aside0.mk (HF.out.but hb_ (by have := HXgf.out; have := HXg4.out; omega)); replace Hg4 := Aside0.mk hn_; replace HB := Aside0.mk (bl_but HB.out hb_ HB.out.size (by have := HXgf.out; have := HXg4.out; omega)); replace HS := Aside0.mk (Nat.le_trans HS.out hb_.size); clear hn_ hb_))
 go_upto_region 4 with (first | ((with_reducible refine gate_dst (N := 6) rfl ?_); refine ld_cv Hg4.out rfl _ rfl rfl ?_) | ((with_reducible refine gate_dst (N := 7) rfl ?_); refine ld_pt HA.out rfl _ rfl rfl ?_) | ((with_reducible refine gate_dst (N := 8) rfl ?_); refine goesL_ (some 8) rfl rfl Try.func30 (by kernel_rfl) rfl #[cvV gf, ptV x y f] rfl (by (try simp only [List.map_toArray, List.map_cons, List.map_nil]); first | done | rfl) ?_; (with_reducible refine (K2.out _ _ (HF.out)).mono ?_); rintro e u4 ⟨rfl, hb_⟩; refine ⟨_, rfl, ?_⟩; replace HA := Aside0.mk (HA.out.on hb_); replace HR := Aside0.mk (HR.out.on hb_); replace Hg4 := Aside0.mk (Hg4.out.on hb_); replace HF := Aside0.mk (HF.out.on hb_); replace HB := Aside0.mk (bl_on HB.out hb_ HB.out.size); replace HS := Aside0.mk (Nat.le_trans HS.out hb_.size); clear hb_))
 have cq0 := Hg4.out.c2
 go_upto_region 5 with (first | ((with_reducible refine gate_dst (N := 16) rfl ?_); refine ld_num (HA.out.ry) rfl _ rfl rfl ?_) | ((with_reducible refine gate_dst (N := 17) rfl ?_); refine goesFL_ (some 17) rfl rfl (.tmp 13) Try.func52 (by kernel_rfl) rfl gf (numV 0) (numV y) rfl rfl (by (try simp only [List.map_toArray, List.map_cons, List.map_nil]); first | done | rfl) ?_; (with_reducible refine (K3.out _ _ (HF.out)).mono ?_); rintro e u5 ⟨rfl, hb_⟩; refine ⟨_, rfl, ?_⟩; replace HA := Aside0.mk (HA.out.on hb_); replace HR := Aside0.mk (HR.out.on hb_); replace Hg4 := Aside0.mk (Hg4.out.on hb_); replace HF := Aside0.mk (HF.out.on hb_); replace HB := Aside0.mk (bl_on HB.out hb_ HB.out.size); replace HS := Aside0.mk (Nat.le_trans HS.out hb_.size); replace cq0 := Hg4.out.c2; clear hb_) | ((with_reducible refine gate_st (y := .tmp 17) rfl ?_); (try simp only [aS]); refine st_pty (n := t1) HA.out rfl _ _ rfl rfl rfl ?_; intro u6 hn_ hb_; replace HR := Aside0.mk (HR.out.but hb_ (by have := HXgf.out; have := HXg4.out; omega)); replace Hg4 := Aside0.mk (Hg4.out.but hb_ (by have := HXgf.out; have := HXg4.out; omega)); replace HF := Aside0.mk (HF.out.but hb_ (by have := HXgf.out; have := HXg4.out; omega)); replace HA := Aside0.mk hn_; replace HB := Aside0.mk (bl_but HB.out hb_ HB.out.size (by have := HXgf.out; have := HXg4.out; omega)); replace HS := Aside0.mk (Nat.le_trans HS.out hb_.size); replace cq0 := Hg4.out.c2; clear hn_ hb_))
 clear cq0
 go_wp2_with (first | ((with_reducible refine gate_dst (N := 19) rfl ?_); refine ld_pt HA.out rfl _ rfl rfl ?_) | ((with_reducible refine gate_st (y := .tmp 19) rfl ?_); (try simp only [aS]); refine st_pt (x := x) (y := t1) (f := f) HR.out rfl _ _ rfl rfl rfl ?_; intro u7 hn_ hb_; replace HA := Aside0.mk (HA.out.but hb_ (by have := HXgf.out; have := HXg4.out; omega)); replace Hg4 := Aside0.mk (Hg4.out.but hb_ (by have := HXgf.out; have := HXg4.out; omega)); replace HF := Aside0.mk (HF.out.but hb_ (by have := HXgf.out; have := HXg4.out; omega)); replace HR := Aside0.mk hn_; replace HB := Aside0.mk (bl_but HB.out hb_ HB.out.size (by have := HXgf.out; have := HXg4.out; omega)); replace HS := Aside0.mk (Nat.le_trans HS.out hb_.size); clear hn_ hb_))
 refine bodyPost_ret (v := .tuple #[ptV x t1 f, .nilIface]) (results_pt2 rfl rfl rfl HR.out) rfl ⟨rfl, HB.out⟩
set_option maxRecDepth 100000 in
set_option maxHeartbeats 8000000 in
theorem pneg_bad {x y : Nat} {f : Bool} (hx : x < N256) (hy : y < N256) (hon : onB x y f = false) (w : World) :
  Calls Try.prog 12 #[ptV x y f] w fun e w' => e = .returned (ngV x y f) ∧ Below w.heap.size w w' := by
 have hres : ngV x y f = .tuple #[ptV 0 0 false, .iface 38 (.int .i64 1)] := by unfold ngV; rw [hon]; rfl
 have K1 := Aside0.mk (fun (u : World) => pof_calls u)
 have K2 := Aside0.mk (fun (gf : Nat) (u : World) (h : CFld u gf) => pon_calls hx hy f u h)
 rw [hres]
 rw [hon] at K2
 clear hres hx hy hon
 go_enter Try.func12, Try.ntmps12
 go_upto_region 1 with (fail)
 refine wp_at (w2 := (World.alloc (World.alloc w (.cells (pw x y f).toArray 26)) (.cells (pw 0 0 false).toArray 26))) rfl ?_
 obtain ⟨x_0, e_0, h_0, b_0, s_0⟩ := new_PtAt w x y f
 obtain ⟨x_1, e_1, h_1, b_1, s_1⟩ := new_PtAt x_0 0 0 false
 rw [e_0, e_1]
 rw [s_0] at h_1 s_1
 have HB : Aside0 (Below w.heap.size w x_1) := Aside0.mk (bl_both b_0 b_1)
 have HA : Aside0 (PtAt x_1 (w.heap.size) x y f) := Aside0.mk (h_0.on b_1)
 have HR : Aside0 (PtAt x_1 (w.heap.size + 1) 0 0 false) := Aside0.mk h_1
 have HS : Aside0 (w.heap.size + 1 + 1 ≤ x_1.heap.size) := Aside0.mk (Nat.le_of_eq s_1.symm)
 clear e_0 h_0 b_0 s_0 e_1 h_1 b_1 s_1
 obtain ⟨w1, hw_⟩ : ∃ x, x = x_1 := ⟨_, rfl⟩
 subst hw_
 clear x_0
 go_upto_region 2 with (first | ((with_reducible refine gate_dst (N := 5) rfl ?_); refine goesL_ (some 5) rfl rfl Try.func29 (by kernel_rfl) rfl #[] rfl (by (try simp only [List.map_toArray, List.map_cons, List.map_nil]); first | done | rfl) ?_; (with_reducible refine (K1.out _).mono ?_); rintro e u8 ⟨gf, rfl, hF_, hge_, hb_⟩; refine ⟨_, rfl, ?_⟩; have HS0_ := HS; replace HA := Aside0.mk (HA.out.on hb_); replace HR := Aside0.mk (HR.out.on hb_); replace HB := Aside0.mk (bl_on HB.out hb_ HB.out.size); replace HS := Aside0.mk (Nat.le_trans HS.out hb_.size); have HF := Aside0.mk hF_; have HXgf : Aside0 (w.heap.size + 1 + 1 ≤ gf) := Aside0.mk (Nat.le_trans HS0_.out hge_); clear hF_ hge_ HS0_; clear hb_) | ((with_reducible refine gate_dst (N := 4) rfl ?_); refine al_cv rfl _ rfl rfl ?_; intro g4 u9 eg_ hn_ hb_; have HXg4 : Aside0 (w.heap.size + 1 + 1 ≤ g4 ∧ gf < g4) := Aside0.mk (by rw [eg_]; exact ⟨HS.out, HF.out.size⟩); replace HA := Aside0.mk (HA.out.on hb_); replace HR := Aside0.mk (HR.out.on hb_); replace HF := Aside0.mk (HF.out.on hb_); replace HB := Aside0.mk (bl_on HB.out hb_ HB.out.size); replace HS := Aside0.mk (Nat.le_trans HS.out hb_.size); have Hg4 := Aside0.mk hn_; clear hn_ hb_ eg_) | ((with_reducible refine gate_st (y := .tmp 5) rfl ?_); (try simp only [aS]); refine st_cv Hg4.out rfl _ _ rfl rfl rfl ?_; intro u10 hn_ hb_; replace HA := Aside0.mk (HA.out.but hb_ (by have := HXgf.out; have := HXg4.out; omega)); replace HR := Aside0.mk (HR.out.but hb_ (by have := HXgf.out; have := HXg4.out; omega)); replace HF := Aside0.mk (HF.out.but hb_ (by have := HXgf.out; have := HXg4.out; omega)); replace Hg4 := Aside0.mk hn_; replace HB := Aside0.mk (bl_but HB.out hb_ HB.out.size (by have := HXgf.out; have := HXg4.out; omega)); replace HS := Aside0.mk (Nat.le_trans HS.out hb_.size); clear hn_ hb_))
 go_upto_region 3 with (first | ((with_reducible refine gate_dst (N := 6) rfl ?_); refine ld_cv Hg4.out rfl _ rfl rfl ?_) | ((with_reducible refine gate_dst (N := 7) rfl ?_); refine ld_pt HA.out rfl _ rfl rfl ?_) | ((with_reducible refine gate_dst (N := 8) rfl ?_); refine goesL_ (some 8) rfl rfl Try.func30 (by kernel_rfl) rfl #[cvV gf, ptV x y f] rfl (by (try simp only [List.map_toArray, List.map_cons, List.map_nil]); first | done | rfl) ?_; (with_reducible refine (K2.out _ _ (HF.out)).mono ?_); rintro e u11 ⟨rfl, hb_⟩; refine ⟨_, rfl, ?_⟩; replace HA := Aside0.mk (HA.out.on hb_); replace HR := Aside0.mk (HR.out.on hb_); replace Hg4 := Aside0.mk (Hg4.out.on hb_); replace HF := Aside0.mk (HF.out.on hb_); replace HB := Aside0.mk (bl_on HB.out hb_ HB.out.size); replace HS := Aside0.mk (Nat.le_trans HS.out hb_.size); clear hb_))
 go_wp2_with (first | ((with_reducible refine gate_st (y := .tmp 10) rfl ?_); (try simp only [aS]); refine st_pt (x := 0) (y := 0) (f := false) HR.out rfl _ _ rfl rfl rfl ?_; intro u12 hn_ hb_; replace HA := Aside0.mk (HA.out.but hb_ (by have := HXgf.out; have := HXg4.out; omega)); replace Hg4 := Aside0.mk (Hg4.out.but hb_ (by have := HXgf.out; have := HXg4.out; omega)); replace HF := Aside0.mk (HF.out.but hb_ (by have := HXgf.out; have := HXg4.out; omega)); replace HR := Aside0.mk hn_; replace HB := Aside0.mk (bl_but HB.out hb_ HB.out.size (by have := HXgf.out; have := HXg4.out; omega)); replace HS := Aside0.mk (Nat.le_trans HS.out hb_.size); clear hn_ hb_))
 refine bodyPost_ret (v := .tuple #[ptV 0 0 false, .iface 38 (.int .i64 1)]) (results_pt2 rfl rfl rfl HR.out) rfl ⟨rfl, HB.out⟩
theorem pNeg_calls {x y : Nat} (f : Bool) (hx : x < N256) (hy : y < N256) (w : World) :
  Calls Try.prog 12 #[ptV x y f] w fun e w' => e = .returned (ngV x y f) ∧ Below w.heap.size w w' := by
 cases h : onB x y f
 ·exact pneg_bad hx hy h w
 ·exact pneg_ok hx hy h w
end Go.Proofs.Ytkfjhndofbmhoaa
namespace Go.Proofs.Ytkfjhndofbmhoaa
open Go.RowKit Go.Proofs.Ytkfjhndofbmhoaa.Arr Go.Proofs.YtkfjhndofbmhoaaW.PrintWords Go.Proofs.YtkfjhndofbmhoaaW.PrintLast Go.Proofs.YtkfjhndofbmhoaaW.PrintMore
set_option linter.unusedVariables false
set_option linter.unusedSimpArgs false
theorem lit_gX : Value.agg #[.int .u64 17627433388654248598, .int .u64 8575836109218198432, .int .u64 17923454489921339634, .int .u64 7716867327612699207] = numV gX := num_lit gX 17627433388654248598 8575836109218198432 17923454489921339634 7716867327612699207 (by decide +kernel)
theorem lit_gY : Value.agg #[.int .u64 14678990851816772085, .int .u64 3156516839386865358, .int .u64 10297457778147434006, .int .u64 5756518291402817435] = numV gY := num_lit gY 14678990851816772085 3156516839386865358 10297457778147434006 5756518291402817435 (by decide +kernel)
theorem bt_c (x y z t : Int) : Try.prog.built 24 [(0, .int .u64 x), (1, .int .u64 y), (2, .int .u64 z), (3, .int .u64 t)] = some #[.int .u64 x, .int .u64 y, .int .u64 z, .int .u64 t] := by kernel_rfl
theorem bd_c {ops : Array Oper} {rest : List Oper} {op : Oper} {a : Act} {w : World} {Q : Exit → Act → World → Prop} {x y z t : Int} {n : Nat} (hgd : op.guard = none) (d : Option Tmp) (hd : op.dst = d) (ho : op.op = .build 24 #[(0, .const (.int .u64 x)), (1, .const (.int .u64 y)), (2, .const (.int .u64 z)), (3, .const (.int .u64 t))]) (e : Value.agg #[.int .u64 x, .int .u64 y, .int .u64 z, .int .u64 t] = numV n)
  (k : wpList Try.prog ops Q rest (a.put d (numV n)) w) : wpList Try.prog ops Q (op :: rest) a w := by
 rw [← e] at k
 refine Go.Great.wpList_runTo hgd d hd _ w ?_ k
 unfold execOp
 rw [ho]
 have h := run_build w 24 #[(0, .int .u64 x), (1, .int .u64 y), (2, .int .u64 z), (3, .int .u64 t)] _ (bt_c x y z t)
 simp only [List.map_toArray, List.map_cons, List.map_nil, Act.eval, Sem.run_bind, h, Result.andThen_ok]
 rfl
set_option maxRecDepth 100000 in
set_option maxHeartbeats 8000000 in
theorem pbase_calls (w : World) :
  Calls Try.prog 18 #[] w fun e w' => e = .returned (ptV gX gY false) ∧ Below w.heap.size w w' := by
 go_enter Try.func18, Try.ntmps18
 go_upto_region 1 with (fail)
 refine wp_at (w2 := (World.alloc w (.cells (pw 0 0 false).toArray 26))) rfl ?_
 obtain ⟨x_0, e_0, h_0, b_0, s_0⟩ := new_PtAt w 0 0 false
 rw [e_0]
 have HB : Aside0 (Below w.heap.size w x_0) := Aside0.mk b_0
 have HR : Aside0 (PtAt x_0 (w.heap.size) 0 0 false) := Aside0.mk h_0
 have HS : Aside0 (w.heap.size + 1 ≤ x_0.heap.size) := Aside0.mk (Nat.le_of_eq s_0.symm)
 clear e_0 h_0 b_0 s_0
 obtain ⟨w1, hw_⟩ : ∃ x, x = x_0 := ⟨_, rfl⟩
 subst hw_
 go_wp2_with (first | ((with_reducible refine gate_dst (N := 1) rfl ?_); refine bd_c rfl _ rfl rfl lit_gX ?_) | ((with_reducible refine gate_dst (N := 2) rfl ?_); refine bd_c rfl _ rfl rfl lit_gY ?_) | ((with_reducible refine gate_dst (N := 3) rfl ?_); refine bd_pt (p := gX) (q := gY) rfl _ rfl (.tmp 1) (.tmp 2) rfl rfl rfl ?_) | ((with_reducible refine gate_st (y := .tmp 3) rfl ?_); (try simp only [aS]); refine st_pt (x := gX) (y := gY) (f := false) HR.out rfl _ _ rfl rfl rfl ?_; intro u1 hn_ hb_; replace HR := Aside0.mk hn_; replace HB := Aside0.mk (bl_but HB.out hb_ HB.out.size (by omega)); replace HS := Aside0.mk (Nat.le_trans HS.out hb_.size); clear hn_ hb_))
 exact bodyPost_ret (v := ptV gX gY false) (results_pt rfl rfl HR.out) rfl ⟨rfl, HB.out⟩
end Go.Proofs.Ytkfjhndofbmhoaa
namespace Go.Proofs.Ytkfjhndofbmhoaa
open Go.RowKit Go.Proofs.Ytkfjhndofbmhoaa.Arr Go.Proofs.YtkfjhndofbmhoaaW.PrintWords Go.Proofs.YtkfjhndofbmhoaaW.PrintLast Go.Proofs.YtkfjhndofbmhoaaW.PrintMore
set_option linter.unusedVariables false
set_option linter.unusedSimpArgs false
/-- the bytes of a point that is not Far -/
def byt2 (x y : Nat) : List Nat := byt x ++ byt y
set_option maxRecDepth 100000 in
set_option maxHeartbeats 8000000 in
theorem rpbytes_calls {x y : Nat} (hx : x < N256) (hy : y < N256) (f : Bool) (w : World) :
  Calls Try.prog 26 #[ptV x y f] w fun e w' => ∃ A c, e = .returned (.slice A 64 c) ∧ BL w' w.heap.size (.slice A 64 c) (byt2 x y) ∧ Below w.heap.size w w' := by
 have HBX := Aside0.mk (fun (u : World) => rbytes_own hx u)
 have HBY := Aside0.mk (fun (u : World) => rbytes_own hy u)
 clear hx hy
 go_enter Try.func26, Try.ntmps26
 go_upto_region 1 with (fail)
 refine wp_at (w2 := (World.alloc w (.cells (pw x y f).toArray 26))) rfl ?_
 obtain ⟨x_0, e_0, h_0, b_0, s_0⟩ := new_PtAt w x y f
 rw [e_0]
 have HB : Aside0 (Below w.heap.size w x_0) := Aside0.mk b_0
 have HA : Aside0 (PtAt x_0 (w.heap.size) x y f) := Aside0.mk h_0
 have HS : Aside0 (w.heap.size + 1 ≤ x_0.heap.size) := Aside0.mk (Nat.le_of_eq s_0.symm)
 clear e_0 h_0 b_0 s_0
 obtain ⟨w1, hw_⟩ : ∃ x, x = x_0 := ⟨_, rfl⟩
 subst hw_
 refine start_ (n := 8) (S := fun w' => Below w1.heap.size w1 w') (ds := []) (bs 8 0) (by kernel_rfl) rfl rfl ((Below.refl _ _).drew) (fun hHeld => ?_)
 refine pu_ 0 3 (bs 8 1) ?_ ?_ ?_ ?_ ?_
 rotate_left
 ·intro w'
  go_simp
  with_reducible rfl
 rotate_left
 ·simp only [aS, i64_w, i32_w]
  rfl
 refine pu_ 3 6 (bs 8 9) ?_ ?_ ?_ ?_ ?_
 rotate_left
 ·intro w'
  go_simp
  with_reducible rfl
 rotate_left
 ·simp only [aS, i64_w, i32_w]
  rfl
 refine take_ (i := 1) (N := some 4) (a' := ?_) (bs 8 11) rfl rfl (by kernel_rfl) (fun _ _ _ h => h) (yields_num (g := w.heap.size) (o := 0) (n := x) (by rfl) (.tmp 3) rfl rfl (fun w' hS => (HA.out.on hS).rx)) hHeld ?_ ?_
 rotate_left
 ·simp only [aS, i64_w, i32_w]
  rfl
 refine take_ (i := 4) (N := some 7) (a' := ?_) (bs 8 27) rfl rfl (by kernel_rfl) (fun _ _ _ h => h) (yields_num (g := w.heap.size) (o := 4) (n := y) (by rfl) (.tmp 6) rfl rfl (fun w' hS => (HA.out.on hS).ry)) hHeld ?_ ?_
 rotate_left
 ·simp only [aS, i64_w, i32_w]
  rfl
 refine on1_ 2 (some 5) (bs 8 31) rfl fun K hK => ?_
 refine gs_ Try.func47 #[numV x] rfl ?_
 with_reducible refine (HBX.out _).mono ?_
 rintro e u7 ⟨g7, c7, rfl, ho7, hb7⟩
 refine ⟨_, rfl, ?_⟩
 refine hK.out _ _ (bl_on hHeld hb7 hHeld.size) (fun hHeld => ?_)
 clear hK K
 refine nm_ (some 5) ?_
 refine on1_ 5 (some 8) (bs 8 63) rfl fun K hK => ?_
 refine gs_ Try.func47 #[numV y] rfl ?_
 with_reducible refine (HBY.out _).mono ?_
 rintro e u8 ⟨g8, c8, rfl, ho8, hb8⟩
 refine ⟨_, rfl, ?_⟩
 refine hK.out _ _ (bl_on hHeld hb8 hHeld.size) (fun hHeld => ?_)
 clear hK K
 refine nm_ (some 8) ?_
 refine on1_ 6 (some 9) (bs 8 127) rfl fun K hK => ?_
 refine sp_bytes (base := w1.drew.heap.size) (by rfl) (ho7.on hb8) ho8.row (byt_len y).symm (Nat.le_trans hb7.size hb8.size) (by rw [byt_length, byt_length]; decide) (.tmp 5) (.tmp 8) rfl rfl rfl ?_
 intro A9 m9 c9 u9 hm9_ ho9 hg9 hw9
 have HM9_ := Aside0.mk hm9_
 clear hm9_
 refine hK.out _ _ (hHeld.trans (grown_below hg9 (fun k hk => (ho7.own k hk).1) hHeld.size)) (fun hHeld => ?_)
 clear hK K
 refine nm_ (some 9) ?_
 refine pu_ 7 2 (bs 8 255) ?_ ?_ ?_ ?_ ?_
 rotate_left
 ·intro w'
  go_simp
  with_reducible rfl
 rotate_left
 ·simp only [aS, i64_w, i32_w]
  rfl
 refine done_ (by kernel_rfl) ?_
 obtain ⟨h9, hm9⟩ : BL u9 w.heap.size (.slice A9 m9 c9) (byt2 x y) ∧ m9 = 64 := ⟨(by obtain ⟨q1, q2⟩ := ho9; exact ⟨q1, by rcases q2 with q2 | ⟨g_, cap_, cur_, r1, r2, r3⟩; exact .inl q2; exact .inr ⟨g_, cap_, cur_, r1, Nat.le_trans (HB.out.size) r2, r3⟩⟩), by rw [HM9_.out, List.length_append, byt_length, byt_length]⟩
 subst hm9
 have HT9 := Aside0.mk h9
 have HB9 : Aside0 (Below w.heap.size w u9) := Aside0.mk (bl_on HB.out hHeld HB.out.size)
 clear ho7 hb7 ho8 hb8 HM9_ ho9 hg9 hw9 hHeld h9 HA HB HS HBX HBY

 go_wp2
 go_ret
 exact ⟨A9, c9, rfl, HT9.out, HB9.out⟩
set_option maxRecDepth 100000 in
set_option maxHeartbeats 8000000 in
theorem pbytes_true_false {x y : Nat} (hx : x < N256) (hy : y < N256) (hon : onB x y false = true) (w : World) :
  Calls Try.prog 25 #[ptV x y false] w fun e w' => ∃ A c, e = .returned (.tuple #[.slice A 64 c, .nilIface]) ∧ BL w' w.heap.size (.slice A 64 c) (byt2 x y) ∧ Below w.heap.size w w' := by
 have HBX := Aside0.mk (fun (u : World) => bytes_own hx u)
 have HBY := Aside0.mk (fun (u : World) => bytes_own hy u)
 have K1 := Aside0.mk (fun (u : World) => pOn_calls hx hy false u)
 rw [hon] at K1
 clear hx hy hon
 go_enter Try.func25, Try.ntmps25
 go_upto_region 1 with (fail)
 refine wp_at (w2 := (World.alloc w (.cells (pw x y false).toArray 26))) rfl ?_
 obtain ⟨x_0, e_0, h_0, b_0, s_0⟩ := new_PtAt w x y false
 rw [e_0]
 have HB : Aside0 (Below w.heap.size w x_0) := Aside0.mk b_0
 have HA : Aside0 (PtAt x_0 (w.heap.size) x y false) := Aside0.mk h_0
 have HS : Aside0 (w.heap.size + 1 ≤ x_0.heap.size) := Aside0.mk (Nat.le_of_eq s_0.symm)
 clear e_0 h_0 b_0 s_0
 obtain ⟨w1, hw_⟩ : ∃ x, x = x_0 := ⟨_, rfl⟩
 subst hw_
 have cq0 := HA.out.far
 go_upto_region 3 with (first | ((with_reducible refine gate_dst (N := 4) rfl ?_); refine ld_pt HA.out rfl _ rfl rfl ?_) | ((with_reducible refine gate_dst (N := 5) rfl ?_); refine goesL_ (some 5) rfl rfl Try.func10 (by kernel_rfl) rfl #[ptV x y false] rfl (by (try simp only [List.map_toArray, List.map_cons, List.map_nil]); first | done | rfl) ?_; (with_reducible refine (K1.out _).mono ?_); rintro e u1 ⟨rfl, hb_⟩; refine ⟨_, rfl, ?_⟩; replace HA := Aside0.mk (HA.out.on hb_); replace HB := Aside0.mk (bl_on HB.out hb_ HB.out.size); replace HS := Aside0.mk (Nat.le_trans HS.out hb_.size); replace cq0 := HA.out.far; clear hb_))
 clear cq0
 refine start_ (n := 9) (S := fun w' => Below u1.heap.size u1 w') (ds := []) (bs 9 0) (by kernel_rfl) rfl rfl ((Below.refl _ _).drew) (fun hHeld => ?_)
 refine pu_ 0 12 (bs 9 1) ?_ ?_ ?_ ?_ ?_
 rotate_left
 ·intro w'
  go_simp
  with_reducible rfl
 rotate_left
 ·simp only [aS, i64_w, i32_w]
  rfl
 refine pu_ 3 15 (bs 9 9) ?_ ?_ ?_ ?_ ?_
 rotate_left
 ·intro w'
  go_simp
  with_reducible rfl
 rotate_left
 ·simp only [aS, i64_w, i32_w]
  rfl
 refine take_ (i := 1) (N := some 13) (a' := ?_) (bs 9 11) rfl rfl (by kernel_rfl) (fun _ _ _ h => h) (yields_num (g := w.heap.size) (o := 0) (n := x) (by rfl) (.tmp 12) rfl rfl (fun w' hS => (HA.out.on hS).rx)) hHeld ?_ ?_
 rotate_left
 ·simp only [aS, i64_w, i32_w]
  rfl
 refine take_ (i := 4) (N := some 16) (a' := ?_) (bs 9 27) rfl rfl (by kernel_rfl) (fun _ _ _ h => h) (yields_num (g := w.heap.size) (o := 4) (n := y) (by rfl) (.tmp 15) rfl rfl (fun w' hS => (HA.out.on hS).ry)) hHeld ?_ ?_
 rotate_left
 ·simp only [aS, i64_w, i32_w]
  rfl
 refine on1_ 2 (some 14) (bs 9 31) rfl fun K hK => ?_
 refine gs_ Try.func46 #[numV x] rfl ?_
 with_reducible refine (HBX.out _).mono ?_
 rintro e u7 ⟨g7, c7, rfl, ho7, hb7⟩
 refine ⟨_, rfl, ?_⟩
 refine hK.out _ _ (bl_on hHeld hb7 hHeld.size) (fun hHeld => ?_)
 clear hK K
 refine nm_ (some 14) ?_
 refine on1_ 5 (some 17) (bs 9 63) rfl fun K hK => ?_
 refine gs_ Try.func46 #[numV y] rfl ?_
 with_reducible refine (HBY.out _).mono ?_
 rintro e u8 ⟨g8, c8, rfl, ho8, hb8⟩
 refine ⟨_, rfl, ?_⟩
 refine hK.out _ _ (bl_on hHeld hb8 hHeld.size) (fun hHeld => ?_)
 clear hK K
 refine nm_ (some 17) ?_
 refine on1_ 6 (some 18) (bs 9 127) rfl fun K hK => ?_
 refine sp_bytes (base := u1.drew.heap.size) (by rfl) (ho7.on hb8) ho8.row (byt_len y).symm (Nat.le_trans hb7.size hb8.size) (by rw [byt_length, byt_length]; decide) (.tmp 14) (.tmp 17) rfl rfl rfl ?_
 intro A9 m9 c9 u9 hm9_ ho9 hg9 hw9
 have HM9_ := Aside0.mk hm9_
 clear hm9_
 refine hK.out _ _ (hHeld.trans (grown_below hg9 (fun k hk => (ho7.own k hk).1) hHeld.size)) (fun hHeld => ?_)
 clear hK K
 refine nm_ (some 18) ?_
 refine pu_ 7 2 (bs 9 255) ?_ ?_ ?_ ?_ ?_
 rotate_left
 ·intro w'
  go_simp
  with_reducible rfl
 rotate_left
 ·simp only [aS, i64_w, i32_w]
  rfl
 refine pu_ 8 3 (bs 9 511) ?_ ?_ ?_ ?_ ?_
 rotate_left
 ·intro w'
  go_simp
  with_reducible rfl
 rotate_left
 ·simp only [aS, i64_w, i32_w]
  rfl
 refine done_ (by kernel_rfl) ?_
 obtain ⟨h9, hm9⟩ : BL u9 w.heap.size (.slice A9 m9 c9) (byt2 x y) ∧ m9 = 64 := ⟨(by obtain ⟨q1, q2⟩ := ho9; exact ⟨q1, by rcases q2 with q2 | ⟨g_, cap_, cur_, r1, r2, r3⟩; exact .inl q2; exact .inr ⟨g_, cap_, cur_, r1, Nat.le_trans (HB.out.size) r2, r3⟩⟩), by rw [HM9_.out, List.length_append, byt_length, byt_length]⟩
 subst hm9
 have HT9 := Aside0.mk h9
 have HB9 : Aside0 (Below w.heap.size w u9) := Aside0.mk (bl_on HB.out hHeld HB.out.size)
 clear ho7 hb7 ho8 hb8 HM9_ ho9 hg9 hw9 hHeld h9 HA HB HS HBX HBY

 go_wp2
 go_ret2
 exact ⟨A9, c9, rfl, HT9.out, HB9.out⟩
set_option maxRecDepth 100000 in
set_option maxHeartbeats 8000000 in
theorem pbytes_true_true {x y : Nat} (hx : x < N256) (hy : y < N256) (hon : onB x y true = true) (w : World) :
  Calls Try.prog 25 #[ptV x y true] w fun e w' => e = .returned (.tuple #[.slice none 0 0, .iface 38 (.int .i64 1)]) ∧ Below w.heap.size w w' := by
 have K1 := Aside0.mk (fun (u : World) => pOn_calls hx hy true u)
 rw [hon] at K1
 clear hx hy hon
 go_enter Try.func25, Try.ntmps25
 go_upto_region 1 with (fail)
 refine wp_at (w2 := (World.alloc w (.cells (pw x y true).toArray 26))) rfl ?_
 obtain ⟨x_0, e_0, h_0, b_0, s_0⟩ := new_PtAt w x y true
 rw [e_0]
 have HB : Aside0 (Below w.heap.size w x_0) := Aside0.mk b_0
 have HA : Aside0 (PtAt x_0 (w.heap.size) x y true) := Aside0.mk h_0
 have HS : Aside0 (w.heap.size + 1 ≤ x_0.heap.size) := Aside0.mk (Nat.le_of_eq s_0.symm)
 clear e_0 h_0 b_0 s_0
 obtain ⟨w1, hw_⟩ : ∃ x, x = x_0 := ⟨_, rfl⟩
 subst hw_
 have cq0 := HA.out.far
 go_upto_region 2 with (first | ((with_reducible refine gate_dst (N := 4) rfl ?_); refine ld_pt HA.out rfl _ rfl rfl ?_) | ((with_reducible refine gate_dst (N := 5) rfl ?_); refine goesL_ (some 5) rfl rfl Try.func10 (by kernel_rfl) rfl #[ptV x y true] rfl (by (try simp only [List.map_toArray, List.map_cons, List.map_nil]); first | done | rfl) ?_; (with_reducible refine (K1.out _).mono ?_); rintro e u2 ⟨rfl, hb_⟩; refine ⟨_, rfl, ?_⟩; replace HA := Aside0.mk (HA.out.on hb_); replace HB := Aside0.mk (bl_on HB.out hb_ HB.out.size); replace HS := Aside0.mk (Nat.le_trans HS.out hb_.size); replace cq0 := HA.out.far; clear hb_))
 clear cq0
 go_wp2
 go_ret2
 exact ⟨rfl, HB.out⟩
set_option maxRecDepth 100000 in
set_option maxHeartbeats 8000000 in
theorem pbytes_false_false {x y : Nat} (hx : x < N256) (hy : y < N256) (hon : onB x y false = false) (w : World) :
  Calls Try.prog 25 #[ptV x y false] w fun e w' => e = .returned (.tuple #[.slice none 0 0, .iface 38 (.int .i64 1)]) ∧ Below w.heap.size w w' := by
 have K1 := Aside0.mk (fun (u : World) => pOn_calls hx hy false u)
 rw [hon] at K1
 clear hx hy hon
 go_enter Try.func25, Try.ntmps25
 go_upto_region 1 with (fail)
 refine wp_at (w2 := (World.alloc w (.cells (pw x y false).toArray 26))) rfl ?_
 obtain ⟨x_0, e_0, h_0, b_0, s_0⟩ := new_PtAt w x y false
 rw [e_0]
 have HB : Aside0 (Below w.heap.size w x_0) := Aside0.mk b_0
 have HA : Aside0 (PtAt x_0 (w.heap.size) x y false) := Aside0.mk h_0
 have HS : Aside0 (w.heap.size + 1 ≤ x_0.heap.size) := Aside0.mk (Nat.le_of_eq s_0.symm)
 clear e_0 h_0 b_0 s_0
 obtain ⟨w1, hw_⟩ : ∃ x, x = x_0 := ⟨_, rfl⟩
 subst hw_
 have cq0 := HA.out.far
 go_upto_region 2 with (first | ((with_reducible refine gate_dst (N := 4) rfl ?_); refine ld_pt HA.out rfl _ rfl rfl ?_) | ((with_reducible refine gate_dst (N := 5) rfl ?_); refine goesL_ (some 5) rfl rfl Try.func10 (by kernel_rfl) rfl #[ptV x y false] rfl (by (try simp only [List.map_toArray, List.map_cons, List.map_nil]); first | done | rfl) ?_; (with_reducible refine (K1.out _).mono ?_); rintro e u3 ⟨rfl, hb_⟩; refine ⟨_, rfl, ?_⟩; replace HA := Aside0.mk (HA.out.on hb_); replace HB := Aside0.mk (bl_on HB.out hb_ HB.out.size); replace HS := Aside0.mk (Nat.le_trans HS.out hb_.size); replace cq0 := HA.out.far; clear hb_))
 clear cq0
 go_wp2
 go_ret2
 exact ⟨rfl, HB.out⟩
set_option maxRecDepth 100000 in
set_option maxHeartbeats 8000000 in
theorem pbytes_false_true {x y : Nat} (hx : x < N256) (hy : y < N256) (hon : onB x y true = false) (w : World) :
  Calls Try.prog 25 #[ptV x y true] w fun e w' => e = .returned (.tuple #[.slice none 0 0, .iface 38 (.int .i64 1)]) ∧ Below w.heap.size w w' := by
 have K1 := Aside0.mk (fun (u : World) => pOn_calls hx hy true u)
 rw [hon] at K1
 clear hx hy hon
 go_enter Try.func25, Try.ntmps25
 go_upto_region 1 with (fail)
 refine wp_at (w2 := (World.alloc w (.cells (pw x y true).toArray 26))) rfl ?_
 obtain ⟨x_0, e_0, h_0, b_0, s_0⟩ := new_PtAt w x y true
 rw [e_0]
 have HB : Aside0 (Below w.heap.size w x_0) := Aside0.mk b_0
 have HA : Aside0 (PtAt x_0 (w.heap.size) x y true) := Aside0.mk h_0
 have HS : Aside0 (w.heap.size + 1 ≤ x_0.heap.size) := Aside0.mk (Nat.le_of_eq s_0.symm)
 clear e_0 h_0 b_0 s_0
 obtain ⟨w1, hw_⟩ : ∃ x, x = x_0 := ⟨_, rfl⟩
 subst hw_
 have cq0 := HA.out.far
 go_upto_region 2 with (first | ((with_reducible refine gate_dst (N := 4) rfl ?_); refine ld_pt HA.out rfl _ rfl rfl ?_) | ((with_reducible refine gate_dst (N := 5) rfl ?_); refine goesL_ (some 5) rfl rfl Try.func10 (by kernel_rfl) rfl #[ptV x y true] rfl (by (try simp only [List.map_toArray, List.map_cons, List.map_nil]); first | done | rfl) ?_; (with_reducible refine (K1.out _).mono ?_); rintro e u4 ⟨rfl, hb_⟩; refine ⟨_, rfl, ?_⟩; replace HA := Aside0.mk (HA.out.on hb_); replace HB := Aside0.mk (bl_on HB.out hb_ HB.out.size); replace HS := Aside0.mk (Nat.le_trans HS.out hb_.size); replace cq0 := HA.out.far; clear hb_))
 clear cq0
 go_wp2
 go_ret2
 exact ⟨rfl, HB.out⟩
end Go.Proofs.Ytkfjhndofbmhoaa
