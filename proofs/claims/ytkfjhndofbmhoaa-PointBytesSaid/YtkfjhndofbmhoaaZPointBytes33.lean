/- What the proof of PointBytes is made of, part 33. -/
import Derived.Test.YtkfjhndofbmhoaaZPointBytes31
import Derived.Test.YtkfjhndofbmhoaaZPointBytesh
namespace Go.Proofs.Ytkfjhndofbmhoaa
open Go.RowKit Go.Proofs.Ytkfjhndofbmhoaa.Arr Go.Proofs.YtkfjhndofbmhoaaW.PrintWords Go.Proofs.YtkfjhndofbmhoaaW.PrintLast Go.Proofs.YtkfjhndofbmhoaaW.PrintMore
attribute [local go_sem high] eqg_num eqg_num0
set_option linter.unusedVariables false
set_option linter.unusedSimpArgs false
/-- the sum of two points, as the program reckons it -/
noncomputable def adV (x1 y1 : Nat) (f1 : Bool) (x2 y2 : Nat) (f2 : Bool) : Value :=
 let a := liJ x1 y1 f1
 let c := liJ x2 y2 f2
 let s := suJ a.1 a.2.1 a.2.2 c.1 c.2.1 c.2.2
 flJ s.1 s.2.1 s.2.2
/-- what Add answers -/
noncomputable def apV (x1 y1 : Nat) (f1 : Bool) (x2 y2 : Nat) (f2 : Bool) : Value := if onB x1 y1 f1 && onB x2 y2 f2 then .tuple #[adV x1 y1 f1 x2 y2 f2, .nilIface] else .tuple #[ptV 0 0 false, .iface 38 (.int .i64 1)]
set_option maxRecDepth 100000 in
set_option maxHeartbeats 8000000 in
theorem padd_ok {x1 y1 x2 y2 : Nat} {f1 f2 : Bool} (h1 : x1 < N256) (h2 : y1 < N256) (h3 : x2 < N256) (h4 : y2 < N256) (o1 : onB x1 y1 f1 = true) (o2 : onB x2 y2 f2 = true) (w : World) :
  Calls Try.prog 11 #[ptV x1 y1 f1, ptV x2 y2 f2] w fun e w' => e = .returned (apV x1 y1 f1 x2 y2 f2) ∧ Below w.heap.size w w' := by
 have hres : apV x1 y1 f1 x2 y2 f2 = .tuple #[adV x1 y1 f1 x2 y2 f2, .nilIface] := by unfold apV; rw [o1, o2]; rfl
 obtain ⟨bx1, by1⟩ := onB_lt o1
 obtain ⟨bx2, by2⟩ := onB_lt o2
 have la := liJ_lt bx1 by1 f1
 have lc := liJ_lt bx2 by2 f2
 have ad : adV x1 y1 f1 x2 y2 f2 = flJ (suJ (liJ x1 y1 f1).1 (liJ x1 y1 f1).2.1 (liJ x1 y1 f1).2.2 (liJ x2 y2 f2).1 (liJ x2 y2 f2).2.1 (liJ x2 y2 f2).2.2).1 (suJ (liJ x1 y1 f1).1 (liJ x1 y1 f1).2.1 (liJ x1 y1 f1).2.2 (liJ x2 y2 f2).1 (liJ x2 y2 f2).2.1 (liJ x2 y2 f2).2.2).2.1 (suJ (liJ x1 y1 f1).1 (liJ x1 y1 f1).2.1 (liJ x1 y1 f1).2.2 (liJ x2 y2 f2).1 (liJ x2 y2 f2).2.1 (liJ x2 y2 f2).2.2).2.2 := rfl
 have KA := fun u => plift_calls x1 y1 f1 u
 have KB := fun u => plift_calls x2 y2 f2 u
 generalize liJ x1 y1 f1 = ta at *
 generalize liJ x2 y2 f2 = tc at *
 obtain ⟨a1, a2, a3⟩ := ta
 obtain ⟨c1, c2, c3⟩ := tc
 have KA : Aside0 (∀ u, Calls Try.prog 33 #[ptV x1 y1 f1] u fun e w' => e = .returned (thV a1 a2 a3) ∧ Below u.heap.size u w') := Aside0.mk KA
 have KB : Aside0 (∀ u, Calls Try.prog 33 #[ptV x2 y2 f2] u fun e w' => e = .returned (thV c1 c2 c3) ∧ Below u.heap.size u w') := Aside0.mk KB
 have ls := suJ_lt la.1 la.2.1 la.2.2 lc.1 lc.2.1 lc.2.2
 have KS := fun (gf : Nat) (u : World) (h : CFld u gf) => psum_calls la.1 la.2.1 la.2.2 lc.1 lc.2.1 lc.2.2 u h
 dsimp only at ad ls KS
 generalize suJ a1 a2 a3 c1 c2 c3 = ts at *
 obtain ⟨s1, s2, s3⟩ := ts
 have KS : Aside0 (∀ gf u, CFld u gf → Calls Try.prog 32 #[cvV gf, thV a1 a2 a3, thV c1 c2 c3] u fun e w' => e = .returned (thV s1 s2 s3) ∧ Below u.heap.size u w') := Aside0.mk KS
 have KF := fun (gf : Nat) (u : World) (h : CFld u gf) => pflat_calls ls.1 ls.2.1 ls.2.2 u h
 dsimp only at ad KF
 obtain ⟨X, Y, F, ef, bX, bY⟩ := flJ_form s1 s2 s3
 rw [ef] at ad KF
 have KF : Aside0 (∀ gf u, CFld u gf → Calls Try.prog 31 #[cvV gf, thV s1 s2 s3] u fun e w' => e = .returned (ptV X Y F) ∧ Below u.heap.size u w') := Aside0.mk KF
 rw [ad] at hres
 have K1 := Aside0.mk (fun (u : World) => pof_calls u)
 have K2 := Aside0.mk (fun (gf : Nat) (u : World) (h : CFld u gf) => pon_calls h1 h2 f1 u h)
 have K3 := Aside0.mk (fun (gf : Nat) (u : World) (h : CFld u gf) => pon_calls h3 h4 f2 u h)
 rw [hres]
 rw [o1] at K2
 rw [o2] at K3
 clear hres h1 h2 h3 h4 o1 o2 bx1 by1 bx2 by2 la lc ls ad ef bX bY
 go_enter Try.func11, Try.ntmps11
 go_upto_region 1 with (fail)
 refine wp_at (w2 := (World.alloc (World.alloc (World.alloc w (.cells (pw x1 y1 f1).toArray 26)) (.cells (pw x2 y2 f2).toArray 26)) (.cells (pw 0 0 false).toArray 26))) rfl ?_
 obtain ⟨x_0, e_0, h_0, b_0, s_0⟩ := new_PtAt w x1 y1 f1
 obtain ⟨x_1, e_1, h_1, b_1, s_1⟩ := new_PtAt x_0 x2 y2 f2
 obtain ⟨x_2, e_2, h_2, b_2, s_2⟩ := new_PtAt x_1 0 0 false
 rw [e_0, e_1, e_2]
 rw [s_0] at h_1 s_1
 rw [s_1] at h_2 s_2
 have HB : Aside0 (Below w.heap.size w x_2) := Aside0.mk (bl_both (bl_both b_0 b_1) b_2)
 have HA : Aside0 (PtAt x_2 (w.heap.size) x1 y1 f1) := Aside0.mk ((h_0.on b_1).on b_2)
 have HA2 : Aside0 (PtAt x_2 (w.heap.size + 1) x2 y2 f2) := Aside0.mk (h_1.on b_2)
 have HR : Aside0 (PtAt x_2 (w.heap.size + 1 + 1) 0 0 false) := Aside0.mk h_2
 have HS : Aside0 (w.heap.size + 1 + 1 + 1 ≤ x_2.heap.size) := Aside0.mk (Nat.le_of_eq s_2.symm)
 clear e_0 h_0 b_0 s_0 e_1 h_1 b_1 s_1 e_2 h_2 b_2 s_2
 obtain ⟨w1, hw_⟩ : ∃ x, x = x_2 := ⟨_, rfl⟩
 subst hw_
 clear x_0 x_1
 go_upto_region 2 with (first | ((with_reducible refine gate_dst (N := 7) rfl ?_); refine goesL_ (some 7) rfl rfl Try.func29 (by kernel_rfl) rfl #[] rfl (by (try simp only [List.map_toArray, List.map_cons, List.map_nil]); first | done | rfl) ?_; (with_reducible refine (K1.out _).mono ?_); rintro e u1 ⟨gf, rfl, hF_, hge_, hb_⟩; refine ⟨_, rfl, ?_⟩; have HS0_ := HS; replace HA := Aside0.mk (HA.out.on hb_); replace HA2 := Aside0.mk (HA2.out.on hb_); replace HR := Aside0.mk (HR.out.on hb_); replace HB := Aside0.mk (bl_on HB.out hb_ HB.out.size); replace HS := Aside0.mk (Nat.le_trans HS.out hb_.size); have HF := Aside0.mk hF_; have HXgf : Aside0 (w.heap.size + 1 + 1 + 1 ≤ gf) := Aside0.mk (Nat.le_trans HS0_.out hge_); clear hF_ hge_ HS0_; clear hb_) | ((with_reducible refine gate_dst (N := 6) rfl ?_); refine al_cv rfl _ rfl rfl ?_; intro g6 u2 eg_ hn_ hb_; have HXg6 : Aside0 (w.heap.size + 1 + 1 + 1 ≤ g6 ∧ gf < g6) := Aside0.mk (by rw [eg_]; exact ⟨HS.out, HF.out.size⟩); replace HA := Aside0.mk (HA.out.on hb_); replace HA2 := Aside0.mk (HA2.out.on hb_); replace HR := Aside0.mk (HR.out.on hb_); replace HF := Aside0.mk (HF.out.on hb_); replace HB := Aside0.mk (bl_on HB.out hb_ HB.out.size); replace HS := Aside0.mk (Nat.le_trans HS.out hb_.size); have Hg6 := Aside0.mk hn_; clear hn_ hb_ eg_) | ((with_reducible refine gate_st (y := .tmp 7) rfl ?_); (try simp only [aS]); refine st_cv Hg6.out rfl _ _ rfl rfl rfl ?_; intro u3 hn_ hb_; replace HA := Aside0.mk (HA.out.but hb_ (by have := HXgf.out; have := HXg6.out; omega)); replace HA2 := Aside0.mk (HA2.out.but hb_ (by have := HXgf.out; have := HXg6.out; omega)); replace HR := Aside0.mk (HR.out.but hb_ (by have := HXgf.out; have := HXg6.out; omega)); replace HF := Aside0.mk (HF.out.but hb_ (by have := HXgf.out; have := HXg6.out; omega)); replace Hg6 := Aside0.mk hn_; replace HB := Aside0.mk (bl_but HB.out hb_ HB.out.size (by have := HXgf.out; have := HXg6.out; omega)); replace HS := Aside0.mk (Nat.le_trans HS.out hb_.size); clear hn_ hb_))
 go_upto_region 4 with (first | ((with_reducible refine gate_dst (N := 8) rfl ?_); refine ld_cv Hg6.out rfl _ rfl rfl ?_) | ((with_reducible refine gate_dst (N := 9) rfl ?_); refine ld_pt HA.out rfl _ rfl rfl ?_) | ((with_reducible refine gate_dst (N := 10) rfl ?_); refine goesL_ (some 10) rfl rfl Try.func30 (by kernel_rfl) rfl #[cvV gf, ptV x1 y1 f1] rfl (by (try simp only [List.map_toArray, List.map_cons, List.map_nil]); first | done | rfl) ?_; (with_reducible refine (K2.out _ _ (HF.out)).mono ?_); rintro e u4 ⟨rfl, hb_⟩; refine ⟨_, rfl, ?_⟩; replace HA := Aside0.mk (HA.out.on hb_); replace HA2 := Aside0.mk (HA2.out.on hb_); replace HR := Aside0.mk (HR.out.on hb_); replace Hg6 := Aside0.mk (Hg6.out.on hb_); replace HF := Aside0.mk (HF.out.on hb_); replace HB := Aside0.mk (bl_on HB.out hb_ HB.out.size); replace HS := Aside0.mk (Nat.le_trans HS.out hb_.size); clear hb_) | ((with_reducible refine gate_dst (N := 13) rfl ?_); refine ld_cvG Hg6.out (by rfl) _ rfl rfl ?_) | ((with_reducible refine gate_dst (N := 14) rfl ?_); refine ld_ptG HA2.out (by rfl) _ rfl rfl ?_) | ((with_reducible refine gate_dst (N := 15) rfl ?_); refine wpList_step (fun K_ hK_ => ?_); refine goes_ Try.func30 (by kernel_rfl) rfl #[cvV gf, ptV x2 y2 f2] (by rfl) rfl rfl (by (try simp only [List.map_toArray, List.map_cons, List.map_nil]); first | done | rfl) ?_; (with_reducible refine (K3.out _ _ (HF.out)).mono ?_); rintro e u5 ⟨rfl, hb_⟩; refine ⟨_, rfl, ?_⟩; refine hK_ _ _ ?_; clear hK_ K_; replace HA := Aside0.mk (HA.out.on hb_); replace HA2 := Aside0.mk (HA2.out.on hb_); replace HR := Aside0.mk (HR.out.on hb_); replace Hg6 := Aside0.mk (Hg6.out.on hb_); replace HF := Aside0.mk (HF.out.on hb_); replace HB := Aside0.mk (bl_on HB.out hb_ HB.out.size); replace HS := Aside0.mk (Nat.le_trans HS.out hb_.size); clear hb_))
 refine start_ (n := 10) (S := fun w' => Below u5.heap.size u5 w') (ds := [8]) (bs 10 0) (by kernel_rfl) rfl rfl ((Below.refl _ _).drew) (fun hHeld => ?_)
 refine take_ (i := 0) (N := some 20) (a' := ?_) (bs 10 1) rfl rfl (by kernel_rfl) (fun _ _ _ h => h) (yieldsIf_load_mid (by rfl) 58 (.tmp 6) rfl (g6) 0 rfl ((cvl gf)) _ (fun w' hS => (Hg6.out.on hS).range) rfl rfl (rfl)) hHeld ?_ ?_
 rotate_left
 ·simp only [aS, i64_w, i32_w]
  rfl
 refine take_ (i := 1) (N := some 21) (a' := ?_) (bs 10 3) rfl rfl (by kernel_rfl) (fun _ _ _ h => h) (yieldsIf_load_mid (by rfl) 58 (.tmp 6) rfl (g6) 0 rfl ((cvl gf)) _ (fun w' hS => (Hg6.out.on hS).range) rfl rfl (rfl)) hHeld ?_ ?_
 rotate_left
 ·simp only [aS, i64_w, i32_w]
  rfl
 refine take_ (i := 2) (N := some 22) (a' := ?_) (bs 10 7) rfl rfl (by kernel_rfl) (fun _ _ _ h => h) (yieldsIf_load_mid (by rfl) 26 (.tmp 2) rfl (w.heap.size) 0 rfl ((pw x1 y1 f1)) _ (fun w' hS => (HA.out.on hS).range) rfl rfl (rfl)) hHeld ?_ ?_
 rotate_left
 ·simp only [aS, i64_w, i32_w]
  rfl
 refine take_ (i := 4) (N := some 24) (a' := ?_) (bs 10 23) rfl rfl (by kernel_rfl) (fun _ _ _ h => h) (yieldsIf_load_mid (by rfl) 26 (.tmp 3) rfl (w.heap.size + 1) 0 rfl ((pw x2 y2 f2)) _ (fun w' hS => (HA2.out.on hS).range) rfl rfl (rfl)) hHeld ?_ ?_
 rotate_left
 ·simp only [aS, i64_w, i32_w]
  rfl
 refine on1_ 3 (some 23) (bs 10 31) rfl fun K hK => ?_
 refine gs_ Try.func33 #[ptV x1 y1 f1] rfl ?_
 with_reducible refine (KA.out _).mono ?_
 rintro e u6 ⟨rfl, hb_u6⟩
 refine ⟨_, rfl, ?_⟩
 have hq_u6 := bl_on hHeld hb_u6 hHeld.size
 refine hK.out _ _ (hq_u6) (fun hHeld => ?_)
 clear hK K
 refine nm_ (some 23) ?_
 refine on1_ 5 (some 25) (bs 10 63) rfl fun K hK => ?_
 refine gs_ Try.func33 #[ptV x2 y2 f2] rfl ?_
 with_reducible refine (KB.out _).mono ?_
 rintro e u7 ⟨rfl, hb_u7⟩
 refine ⟨_, rfl, ?_⟩
 have hq_u7 := bl_on hHeld hb_u7 hHeld.size
 refine hK.out _ _ (hq_u7) (fun hHeld => ?_)
 clear hK K
 refine nm_ (some 25) ?_
 refine on1_ 6 (some 26) (bs 10 127) rfl fun K hK => ?_
 refine gs_ Try.func32 #[cvV gf, thV a1 a2 a3, thV c1 c2 c3] rfl ?_
 with_reducible refine (KS.out _ _ (HF.out.on hHeld)).mono ?_
 rintro e u8 ⟨rfl, hb_u8⟩
 refine ⟨_, rfl, ?_⟩
 have hq_u8 := bl_on hHeld hb_u8 hHeld.size
 refine hK.out _ _ (hq_u8) (fun hHeld => ?_)
 clear hK K
 refine nm_ (some 26) ?_
 refine on1_ 7 (some 27) (bs 10 255) rfl fun K hK => ?_
 refine gs_ Try.func31 #[cvV gf, thV s1 s2 s3] rfl ?_
 with_reducible refine (KF.out _ _ (HF.out.on hHeld)).mono ?_
 rintro e u9 ⟨rfl, hb_u9⟩
 refine ⟨_, rfl, ?_⟩
 have hq_u9 := bl_on hHeld hb_u9 hHeld.size
 refine hK.out _ _ (hq_u9) (fun hHeld => ?_)
 clear hK K
 refine nm_ (some 27) ?_
 refine last_ (i := 8) (N := none) (bs 10 511) rfl rfl (by kernel_rfl) (by decide) (fun K hK => ?_)
 refine skip_pt (x := X) (y := Y) (f := F) (HR.out.on hHeld) (by rfl) rfl (.tmp 4) (.tmp 27) rfl rfl rfl ?_
 intro q10 hA_q10 hT_q10
 refine hK.out _ _ ?_
 clear hK K
 refine pu_ 9 5 (bs 10 1023) ?_ ?_ ?_ ?_ ?_
 rotate_left
 ·intro w'
  go_simp
  with_reducible rfl
 rotate_left
 ·simp only [aS, i64_w, i32_w]
  rfl
 refine done_ (by kernel_rfl) ?_
 replace HA := Aside0.mk (HA.out.on hHeld)
 replace HA2 := Aside0.mk (HA2.out.on hHeld)
 replace HR := Aside0.mk (HR.out.on hHeld)
 replace Hg6 := Aside0.mk (Hg6.out.on hHeld)
 replace HF := Aside0.mk (HF.out.on hHeld)
 replace HB := Aside0.mk (bl_on HB.out hHeld HB.out.size)
 replace HS := Aside0.mk (Nat.le_trans HS.out hHeld.size)
 replace HA := Aside0.mk (HA.out.but hT_q10 (by have := HXgf.out; have := HXg6.out; omega))
 replace HA2 := Aside0.mk (HA2.out.but hT_q10 (by have := HXgf.out; have := HXg6.out; omega))
 replace Hg6 := Aside0.mk (Hg6.out.but hT_q10 (by have := HXgf.out; have := HXg6.out; omega))
 replace HF := Aside0.mk (HF.out.but hT_q10 (by have := HXgf.out; have := HXg6.out; omega))
 replace HR := Aside0.mk hA_q10
 replace HB := Aside0.mk (bl_but HB.out hT_q10 HB.out.size (by have := HXgf.out; have := HXg6.out; omega))
 replace HS := Aside0.mk (Nat.le_trans HS.out hT_q10.size)
 clear hA_q10 hT_q10 hb_u6 hb_u7 hb_u8 hb_u9 hHeld
 go_wp2
 refine bodyPost_ret (v := .tuple #[ptV X Y F, .nilIface]) (results_pt2 rfl rfl rfl HR.out) rfl ⟨rfl, HB.out⟩
set_option maxRecDepth 100000 in
set_option maxHeartbeats 8000000 in
theorem padd_bad1 {x1 y1 x2 y2 : Nat} {f1 f2 : Bool} (h1 : x1 < N256) (h2 : y1 < N256) (h3 : x2 < N256) (h4 : y2 < N256) (o1 : onB x1 y1 f1 = false) (w : World) :
  Calls Try.prog 11 #[ptV x1 y1 f1, ptV x2 y2 f2] w fun e w' => e = .returned (apV x1 y1 f1 x2 y2 f2) ∧ Below w.heap.size w w' := by
 have hres : apV x1 y1 f1 x2 y2 f2 = .tuple #[ptV 0 0 false, .iface 38 (.int .i64 1)] := by unfold apV; rw [o1]; rfl
 have K1 := Aside0.mk (fun (u : World) => pof_calls u)
 have K2 := Aside0.mk (fun (gf : Nat) (u : World) (h : CFld u gf) => pon_calls h1 h2 f1 u h)
 have K3 := Aside0.mk (fun (gf : Nat) (u : World) (h : CFld u gf) => pon_calls h3 h4 f2 u h)
 rw [hres]
 rw [o1] at K2
 clear hres h1 h2 h3 h4 o1
 go_enter Try.func11, Try.ntmps11
 go_upto_region 1 with (fail)
 refine wp_at (w2 := (World.alloc (World.alloc (World.alloc w (.cells (pw x1 y1 f1).toArray 26)) (.cells (pw x2 y2 f2).toArray 26)) (.cells (pw 0 0 false).toArray 26))) rfl ?_
 obtain ⟨x_0, e_0, h_0, b_0, s_0⟩ := new_PtAt w x1 y1 f1
 obtain ⟨x_1, e_1, h_1, b_1, s_1⟩ := new_PtAt x_0 x2 y2 f2
 obtain ⟨x_2, e_2, h_2, b_2, s_2⟩ := new_PtAt x_1 0 0 false
 rw [e_0, e_1, e_2]
 rw [s_0] at h_1 s_1
 rw [s_1] at h_2 s_2
 have HB : Aside0 (Below w.heap.size w x_2) := Aside0.mk (bl_both (bl_both b_0 b_1) b_2)
 have HA : Aside0 (PtAt x_2 (w.heap.size) x1 y1 f1) := Aside0.mk ((h_0.on b_1).on b_2)
 have HA2 : Aside0 (PtAt x_2 (w.heap.size + 1) x2 y2 f2) := Aside0.mk (h_1.on b_2)
 have HR : Aside0 (PtAt x_2 (w.heap.size + 1 + 1) 0 0 false) := Aside0.mk h_2
 have HS : Aside0 (w.heap.size + 1 + 1 + 1 ≤ x_2.heap.size) := Aside0.mk (Nat.le_of_eq s_2.symm)
 clear e_0 h_0 b_0 s_0 e_1 h_1 b_1 s_1 e_2 h_2 b_2 s_2
 obtain ⟨w1, hw_⟩ : ∃ x, x = x_2 := ⟨_, rfl⟩
 subst hw_
 clear x_0 x_1
 go_upto_region 2 with (first | ((with_reducible refine gate_dst (N := 7) rfl ?_); refine goesL_ (some 7) rfl rfl Try.func29 (by kernel_rfl) rfl #[] rfl (by (try simp only [List.map_toArray, List.map_cons, List.map_nil]); first | done | rfl) ?_; (with_reducible refine (K1.out _).mono ?_); rintro e u11 ⟨gf, rfl, hF_, hge_, hb_⟩; refine ⟨_, rfl, ?_⟩; have HS0_ := HS; replace HA := Aside0.mk (HA.out.on hb_); replace HA2 := Aside0.mk (HA2.out.on hb_); replace HR := Aside0.mk (HR.out.on hb_); replace HB := Aside0.mk (bl_on HB.out hb_ HB.out.size); replace HS := Aside0.mk (Nat.le_trans HS.out hb_.size); have HF := Aside0.mk hF_; have HXgf : Aside0 (w.heap.size + 1 + 1 + 1 ≤ gf) := Aside0.mk (Nat.le_trans HS0_.out hge_); clear hF_ hge_ HS0_; clear hb_) | ((with_reducible refine gate_dst (N := 6) rfl ?_); refine al_cv rfl _ rfl rfl ?_; intro g6 u12 eg_ hn_ hb_; have HXg6 : Aside0 (w.heap.size + 1 + 1 + 1 ≤ g6 ∧ gf < g6) := Aside0.mk (by rw [eg_]; exact ⟨HS.out, HF.out.size⟩); replace HA := Aside0.mk (HA.out.on hb_); replace HA2 := Aside0.mk (HA2.out.on hb_); replace HR := Aside0.mk (HR.out.on hb_); replace HF := Aside0.mk (HF.out.on hb_); replace HB := Aside0.mk (bl_on HB.out hb_ HB.out.size); replace HS := Aside0.mk (Nat.le_trans HS.out hb_.size); have Hg6 := Aside0.mk hn_; clear hn_ hb_ eg_) | ((with_reducible refine gate_st (y := .tmp 7) rfl ?_); (try simp only [aS]); refine st_cv Hg6.out rfl _ _ rfl rfl rfl ?_; intro u13 hn_ hb_; replace HA := Aside0.mk (HA.out.but hb_ (by have := HXgf.out; have := HXg6.out; omega)); replace HA2 := Aside0.mk (HA2.out.but hb_ (by have := HXgf.out; have := HXg6.out; omega)); replace HR := Aside0.mk (HR.out.but hb_ (by have := HXgf.out; have := HXg6.out; omega)); replace HF := Aside0.mk (HF.out.but hb_ (by have := HXgf.out; have := HXg6.out; omega)); replace Hg6 := Aside0.mk hn_; replace HB := Aside0.mk (bl_but HB.out hb_ HB.out.size (by have := HXgf.out; have := HXg6.out; omega)); replace HS := Aside0.mk (Nat.le_trans HS.out hb_.size); clear hn_ hb_))
 go_upto_region 3 with (first | ((with_reducible refine gate_dst (N := 8) rfl ?_); refine ld_cv Hg6.out rfl _ rfl rfl ?_) | ((with_reducible refine gate_dst (N := 9) rfl ?_); refine ld_pt HA.out rfl _ rfl rfl ?_) | ((with_reducible refine gate_dst (N := 10) rfl ?_); refine goesL_ (some 10) rfl rfl Try.func30 (by kernel_rfl) rfl #[cvV gf, ptV x1 y1 f1] rfl (by (try simp only [List.map_toArray, List.map_cons, List.map_nil]); first | done | rfl) ?_; (with_reducible refine (K2.out _ _ (HF.out)).mono ?_); rintro e u14 ⟨rfl, hb_⟩; refine ⟨_, rfl, ?_⟩; replace HA := Aside0.mk (HA.out.on hb_); replace HA2 := Aside0.mk (HA2.out.on hb_); replace HR := Aside0.mk (HR.out.on hb_); replace Hg6 := Aside0.mk (Hg6.out.on hb_); replace HF := Aside0.mk (HF.out.on hb_); replace HB := Aside0.mk (bl_on HB.out hb_ HB.out.size); replace HS := Aside0.mk (Nat.le_trans HS.out hb_.size); clear hb_) | ((with_reducible refine gate_dst (N := 13) rfl ?_); refine ld_cvG Hg6.out (by rfl) _ rfl rfl ?_) | ((with_reducible refine gate_dst (N := 14) rfl ?_); refine ld_ptG HA2.out (by rfl) _ rfl rfl ?_) | ((with_reducible refine gate_dst (N := 15) rfl ?_); refine wpList_step (fun K_ hK_ => ?_); refine goes_ Try.func30 (by kernel_rfl) rfl #[cvV gf, ptV x2 y2 f2] (by rfl) rfl rfl (by (try simp only [List.map_toArray, List.map_cons, List.map_nil]); first | done | rfl) ?_; (with_reducible refine (K3.out _ _ (HF.out)).mono ?_); rintro e u15 ⟨rfl, hb_⟩; refine ⟨_, rfl, ?_⟩; refine hK_ _ _ ?_; clear hK_ K_; replace HA := Aside0.mk (HA.out.on hb_); replace HA2 := Aside0.mk (HA2.out.on hb_); replace HR := Aside0.mk (HR.out.on hb_); replace Hg6 := Aside0.mk (Hg6.out.on hb_); replace HF := Aside0.mk (HF.out.on hb_); replace HB := Aside0.mk (bl_on HB.out hb_ HB.out.size); replace HS := Aside0.mk (Nat.le_trans HS.out hb_.size); clear hb_))
 go_wp2_with (first | ((with_reducible refine gate_st (y := .tmp 18) rfl ?_); (try simp only [aS]); refine st_pt (x := 0) (y := 0) (f := false) HR.out rfl _ _ rfl rfl rfl ?_; intro u16 hn_ hb_; replace HA := Aside0.mk (HA.out.but hb_ (by have := HXgf.out; have := HXg6.out; omega)); replace HA2 := Aside0.mk (HA2.out.but hb_ (by have := HXgf.out; have := HXg6.out; omega)); replace Hg6 := Aside0.mk (Hg6.out.but hb_ (by have := HXgf.out; have := HXg6.out; omega)); replace HF := Aside0.mk (HF.out.but hb_ (by have := HXgf.out; have := HXg6.out; omega)); replace HR := Aside0.mk hn_; replace HB := Aside0.mk (bl_but HB.out hb_ HB.out.size (by have := HXgf.out; have := HXg6.out; omega)); replace HS := Aside0.mk (Nat.le_trans HS.out hb_.size); clear hn_ hb_))
 refine bodyPost_ret (v := .tuple #[ptV 0 0 false, .iface 38 (.int .i64 1)]) (results_pt2 rfl rfl rfl HR.out) rfl ⟨rfl, HB.out⟩
set_option maxRecDepth 100000 in
set_option maxHeartbeats 8000000 in
theorem padd_bad2 {x1 y1 x2 y2 : Nat} {f1 f2 : Bool} (h1 : x1 < N256) (h2 : y1 < N256) (h3 : x2 < N256) (h4 : y2 < N256) (o1 : onB x1 y1 f1 = true) (o2 : onB x2 y2 f2 = false) (w : World) :
  Calls Try.prog 11 #[ptV x1 y1 f1, ptV x2 y2 f2] w fun e w' => e = .returned (apV x1 y1 f1 x2 y2 f2) ∧ Below w.heap.size w w' := by
 have hres : apV x1 y1 f1 x2 y2 f2 = .tuple #[ptV 0 0 false, .iface 38 (.int .i64 1)] := by unfold apV; rw [o1, o2]; rfl
 have K1 := Aside0.mk (fun (u : World) => pof_calls u)
 have K2 := Aside0.mk (fun (gf : Nat) (u : World) (h : CFld u gf) => pon_calls h1 h2 f1 u h)
 have K3 := Aside0.mk (fun (gf : Nat) (u : World) (h : CFld u gf) => pon_calls h3 h4 f2 u h)
 rw [hres]
 rw [o1] at K2
 rw [o2] at K3
 clear hres h1 h2 h3 h4 o1 o2
 go_enter Try.func11, Try.ntmps11
 go_upto_region 1 with (fail)
 refine wp_at (w2 := (World.alloc (World.alloc (World.alloc w (.cells (pw x1 y1 f1).toArray 26)) (.cells (pw x2 y2 f2).toArray 26)) (.cells (pw 0 0 false).toArray 26))) rfl ?_
 obtain ⟨x_0, e_0, h_0, b_0, s_0⟩ := new_PtAt w x1 y1 f1
 obtain ⟨x_1, e_1, h_1, b_1, s_1⟩ := new_PtAt x_0 x2 y2 f2
 obtain ⟨x_2, e_2, h_2, b_2, s_2⟩ := new_PtAt x_1 0 0 false
 rw [e_0, e_1, e_2]
 rw [s_0] at h_1 s_1
 rw [s_1] at h_2 s_2
 have HB : Aside0 (Below w.heap.size w x_2) := Aside0.mk (bl_both (bl_both b_0 b_1) b_2)
 have HA : Aside0 (PtAt x_2 (w.heap.size) x1 y1 f1) := Aside0.mk ((h_0.on b_1).on b_2)
 have HA2 : Aside0 (PtAt x_2 (w.heap.size + 1) x2 y2 f2) := Aside0.mk (h_1.on b_2)
 have HR : Aside0 (PtAt x_2 (w.heap.size + 1 + 1) 0 0 false) := Aside0.mk h_2
 have HS : Aside0 (w.heap.size + 1 + 1 + 1 ≤ x_2.heap.size) := Aside0.mk (Nat.le_of_eq s_2.symm)
 clear e_0 h_0 b_0 s_0 e_1 h_1 b_1 s_1 e_2 h_2 b_2 s_2
 obtain ⟨w1, hw_⟩ : ∃ x, x = x_2 := ⟨_, rfl⟩
 subst hw_
 clear x_0 x_1
 go_upto_region 2 with (first | ((with_reducible refine gate_dst (N := 7) rfl ?_); refine goesL_ (some 7) rfl rfl Try.func29 (by kernel_rfl) rfl #[] rfl (by (try simp only [List.map_toArray, List.map_cons, List.map_nil]); first | done | rfl) ?_; (with_reducible refine (K1.out _).mono ?_); rintro e u17 ⟨gf, rfl, hF_, hge_, hb_⟩; refine ⟨_, rfl, ?_⟩; have HS0_ := HS; replace HA := Aside0.mk (HA.out.on hb_); replace HA2 := Aside0.mk (HA2.out.on hb_); replace HR := Aside0.mk (HR.out.on hb_); replace HB := Aside0.mk (bl_on HB.out hb_ HB.out.size); replace HS := Aside0.mk (Nat.le_trans HS.out hb_.size); have HF := Aside0.mk hF_; have HXgf : Aside0 (w.heap.size + 1 + 1 + 1 ≤ gf) := Aside0.mk (Nat.le_trans HS0_.out hge_); clear hF_ hge_ HS0_; clear hb_) | ((with_reducible refine gate_dst (N := 6) rfl ?_); refine al_cv rfl _ rfl rfl ?_; intro g6 u18 eg_ hn_ hb_; have HXg6 : Aside0 (w.heap.size + 1 + 1 + 1 ≤ g6 ∧ gf < g6) := Aside0.mk (by rw [eg_]; exact ⟨HS.out, HF.out.size⟩); replace HA := Aside0.mk (HA.out.on hb_); replace HA2 := Aside0.mk (HA2.out.on hb_); replace HR := Aside0.mk (HR.out.on hb_); replace HF := Aside0.mk (HF.out.on hb_); replace HB := Aside0.mk (bl_on HB.out hb_ HB.out.size); replace HS := Aside0.mk (Nat.le_trans HS.out hb_.size); have Hg6 := Aside0.mk hn_; clear hn_ hb_ eg_) | ((with_reducible refine gate_st (y := .tmp 7) rfl ?_); (try simp only [aS]); refine st_cv Hg6.out rfl _ _ rfl rfl rfl ?_; intro u19 hn_ hb_; replace HA := Aside0.mk (HA.out.but hb_ (by have := HXgf.out; have := HXg6.out; omega)); replace HA2 := Aside0.mk (HA2.out.but hb_ (by have := HXgf.out; have := HXg6.out; omega)); replace HR := Aside0.mk (HR.out.but hb_ (by have := HXgf.out; have := HXg6.out; omega)); replace HF := Aside0.mk (HF.out.but hb_ (by have := HXgf.out; have := HXg6.out; omega)); replace Hg6 := Aside0.mk hn_; replace HB := Aside0.mk (bl_but HB.out hb_ HB.out.size (by have := HXgf.out; have := HXg6.out; omega)); replace HS := Aside0.mk (Nat.le_trans HS.out hb_.size); clear hn_ hb_))
 go_upto_region 3 with (first | ((with_reducible refine gate_dst (N := 8) rfl ?_); refine ld_cv Hg6.out rfl _ rfl rfl ?_) | ((with_reducible refine gate_dst (N := 9) rfl ?_); refine ld_pt HA.out rfl _ rfl rfl ?_) | ((with_reducible refine gate_dst (N := 10) rfl ?_); refine goesL_ (some 10) rfl rfl Try.func30 (by kernel_rfl) rfl #[cvV gf, ptV x1 y1 f1] rfl (by (try simp only [List.map_toArray, List.map_cons, List.map_nil]); first | done | rfl) ?_; (with_reducible refine (K2.out _ _ (HF.out)).mono ?_); rintro e u20 ⟨rfl, hb_⟩; refine ⟨_, rfl, ?_⟩; replace HA := Aside0.mk (HA.out.on hb_); replace HA2 := Aside0.mk (HA2.out.on hb_); replace HR := Aside0.mk (HR.out.on hb_); replace Hg6 := Aside0.mk (Hg6.out.on hb_); replace HF := Aside0.mk (HF.out.on hb_); replace HB := Aside0.mk (bl_on HB.out hb_ HB.out.size); replace HS := Aside0.mk (Nat.le_trans HS.out hb_.size); clear hb_) | ((with_reducible refine gate_dst (N := 13) rfl ?_); refine ld_cvG Hg6.out (by rfl) _ rfl rfl ?_) | ((with_reducible refine gate_dst (N := 14) rfl ?_); refine ld_ptG HA2.out (by rfl) _ rfl rfl ?_) | ((with_reducible refine gate_dst (N := 15) rfl ?_); refine wpList_step (fun K_ hK_ => ?_); refine goes_ Try.func30 (by kernel_rfl) rfl #[cvV gf, ptV x2 y2 f2] (by rfl) rfl rfl (by (try simp only [List.map_toArray, List.map_cons, List.map_nil]); first | done | rfl) ?_; (with_reducible refine (K3.out _ _ (HF.out)).mono ?_); rintro e u21 ⟨rfl, hb_⟩; refine ⟨_, rfl, ?_⟩; refine hK_ _ _ ?_; clear hK_ K_; replace HA := Aside0.mk (HA.out.on hb_); replace HA2 := Aside0.mk (HA2.out.on hb_); replace HR := Aside0.mk (HR.out.on hb_); replace Hg6 := Aside0.mk (Hg6.out.on hb_); replace HF := Aside0.mk (HF.out.on hb_); replace HB := Aside0.mk (bl_on HB.out hb_ HB.out.size); replace HS := Aside0.mk (Nat.le_trans HS.out hb_.size); clear hb_))
 go_wp2_with (first | ((with_reducible refine gate_st (y := .tmp 18) rfl ?_); (try simp only [aS]); refine st_pt (x := 0) (y := 0) (f := false) HR.out rfl _ _ rfl rfl rfl ?_; intro u22 hn_ hb_; replace HA := Aside0.mk (HA.out.but hb_ (by have := HXgf.out; have := HXg6.out; omega)); replace HA2 := Aside0.mk (HA2.out.but hb_ (by have := HXgf.out; have := HXg6.out; omega)); replace Hg6 := Aside0.mk (Hg6.out.but hb_ (by have := HXgf.out; have := HXg6.out; omega)); replace HF := Aside0.mk (HF.out.but hb_ (by have := HXgf.out; have := HXg6.out; omega)); replace HR := Aside0.mk hn_; replace HB := Aside0.mk (bl_but HB.out hb_ HB.out.size (by have := HXgf.out; have := HXg6.out; omega)); replace HS := Aside0.mk (Nat.le_trans HS.out hb_.size); clear hn_ hb_))
 refine bodyPost_ret (v := .tuple #[ptV 0 0 false, .iface 38 (.int .i64 1)]) (results_pt2 rfl rfl rfl HR.out) rfl ⟨rfl, HB.out⟩
theorem pAdd_calls {x1 y1 x2 y2 : Nat} {f1 f2 : Bool} (h1 : x1 < N256) (h2 : y1 < N256) (h3 : x2 < N256) (h4 : y2 < N256) (w : World) :
  Calls Try.prog 11 #[ptV x1 y1 f1, ptV x2 y2 f2] w fun e w' => e = .returned (apV x1 y1 f1 x2 y2 f2) ∧ Below w.heap.size w w' := by
 cases o1 : onB x1 y1 f1
 ·exact padd_bad1 h1 h2 h3 h4 o1 w
 ·cases o2 : onB x2 y2 f2
  ·exact padd_bad2 h1 h2 h3 h4 o1 o2 w
  ·exact padd_ok h1 h2 h3 h4 o1 o2 w
end Go.Proofs.Ytkfjhndofbmhoaa
namespace Go.Proofs.Ytkfjhndofbmhoaa
open Go.RowKit Go.Proofs.Ytkfjhndofbmhoaa.Arr Go.Proofs.YtkfjhndofbmhoaaW.PrintWords Go.Proofs.YtkfjhndofbmhoaaW.PrintLast Go.Proofs.YtkfjhndofbmhoaaW.PrintMore
attribute [local go_sem high] eqg_num eqg_num0
set_option linter.unusedVariables false
set_option linter.unusedSimpArgs false
def gZ : Nat := msp 0 gY
theorem gX_N : gX < N256 := lt_N gX_lt
theorem gY_N : gY < N256 := lt_N gY_lt
theorem gZ_N : gZ < N256 := lt_N (mod_p _)
theorem on_g : onB gX gY false = true := by decide +kernel
theorem on_gz : onB gX gZ false = true := by decide +kernel
theorem on_0 : onB 0 0 false = false := by decide +kernel
theorem on_base (w : World) : Calls Try.prog 10 #[ptV gX gY false] w fun e w' => e = .returned (.bool true) ∧ Below w.heap.size w w' := by
 have h := pOn_calls gX_N gY_N false w
 rw [on_g] at h
 exact h
theorem on_zero (w : World) : Calls Try.prog 10 #[ptV 0 0 false] w fun e w' => e = .returned (.bool false) ∧ Below w.heap.size w w' := by
 have h := pOn_calls N256_pos N256_pos false w
 rw [on_0] at h
 exact h
theorem neg_base (w : World) : Calls Try.prog 12 #[ptV gX gY false] w fun e w' => e = .returned (.tuple #[ptV gX gZ false, .nilIface]) ∧ Below w.heap.size w w' := by
 have h := pNeg_calls false gX_N gY_N w
 have e : ngV gX gY false = .tuple #[ptV gX gZ false, .nilIface] := by
  unfold ngV
  rw [on_g]
  rfl
 rw [e] at h
 exact h
theorem flJ_far (x y : Nat) : flJ x y 0 = ptV 0 0 true := by
 have h : invO pP 0 = none := by
  cases h : invO pP 0 with
  | none => rfl
  | some v =>
   have := (invO_spec h).2
   rw [Nat.zero_mul, Nat.zero_mod] at this
   cases this
 unfold flJ
 rw [h]
theorem sum_base : suJ gX gY 1 gX gZ 1 = (0, 0, 0) := by decide +kernel
theorem add_base (w : World) : Calls Try.prog 11 #[ptV gX gY false, ptV gX gZ false] w fun e w' => e = .returned (.tuple #[ptV 0 0 true, .nilIface]) ∧ Below w.heap.size w w' := by
 have h := pAdd_calls (f1 := false) (f2 := false) gX_N gY_N gX_N gZ_N w
 have ea : adV gX gY false gX gZ false = ptV 0 0 true := by
  have e1 : adV gX gY false gX gZ false = flJ (suJ gX gY 1 gX gZ 1).1 (suJ gX gY 1 gX gZ 1).2.1 (suJ gX gY 1 gX gZ 1).2.2 := rfl
  rw [e1, sum_base]
  exact flJ_far 0 0
 have e : apV gX gY false gX gZ false = .tuple #[ptV 0 0 true, .nilIface] := by
  unfold apV
  rw [on_g, on_gz, ea]
  rfl
 rw [e] at h
 exact h
set_option maxRecDepth 100000 in
set_option maxHeartbeats 8000000 in
theorem up_calls (w : World) :
  Calls Try.prog 9 #[] w fun e w' => e = .returned (.bool true) ∧ Below w.heap.size w w' := by
 have hq : ∀ w, (binOp .eql 26 (ptV 0 0 true) (.agg #[.int .u64 0, .int .u64 0, .int .u64 0, .int .u64 0, .int .u64 0, .int .u64 0, .int .u64 0, .int .u64 0, .bool true])).run Try.prog w = .ok (.bool true) w := fun w =>
  eql_pt (x := 0) (y := 0) (x' := 0) (y' := 0) N256_pos N256_pos N256_pos N256_pos true true w
 have hg : ∀ w x_ y_, (eqGuard .eql 26 x_ y_ (ptV 0 0 true) (.agg #[.int .u64 0, .int .u64 0, .int .u64 0, .int .u64 0, .int .u64 0, .int .u64 0, .int .u64 0, .int .u64 0, .bool true])).run Try.prog w = .ok () w := fun w x_ y_ => eqg_pt .eql x_ y_ 0 0 0 0 true true w
 have K1 := Aside0.mk (fun (u : World) => pbase_calls u)
 have K2 := Aside0.mk (fun (u : World) => neg_base u)
 have K3 := Aside0.mk (fun (u : World) => add_base u)
 have K4 := Aside0.mk (fun (u : World) => on_base u)
 have K5 := Aside0.mk (fun (u : World) => on_zero u)
 go_enter Try.func9, Try.ntmps9
 go_upto_region 1 with (fail)
 have HB : Aside0 (Below w.heap.size w w) := Aside0.mk (Below.refl _ _)
 have HS : Aside0 (w.heap.size ≤ w.heap.size) := Aside0.mk (Nat.le_refl _)
 go_upto_region 2 with (first | ((with_reducible refine gate_dst (N := 6) rfl ?_); refine goesL_ (some 6) rfl rfl Try.func18 (by kernel_rfl) rfl #[] rfl (by (try simp only [List.map_toArray, List.map_cons, List.map_nil]); first | done | rfl) ?_; (with_reducible refine (K1.out _).mono ?_); rintro e u1 ⟨rfl, hb_⟩; refine ⟨_, rfl, ?_⟩; replace HB := Aside0.mk (bl_on HB.out hb_ HB.out.size); replace HS := Aside0.mk (Nat.le_trans HS.out hb_.size); clear hb_) | ((with_reducible refine gate_dst (N := 1) rfl ?_); refine al_pt rfl _ rfl rfl ?_; intro g1 u2 eg_ hn_ hb_; have HXg1 : Aside0 (w.heap.size ≤ g1) := Aside0.mk (by rw [eg_]; exact HS.out); replace HB := Aside0.mk (bl_on HB.out hb_ HB.out.size); replace HS := Aside0.mk (Nat.le_trans HS.out hb_.size); have Hg1 := Aside0.mk hn_; clear hn_ hb_ eg_) | ((with_reducible refine gate_st (y := .tmp 6) rfl ?_); (try simp only [aS]); refine st_pt (x := gX) (y := gY) (f := false) Hg1.out rfl _ _ rfl rfl rfl ?_; intro u3 hn_ hb_; replace Hg1 := Aside0.mk hn_; replace HB := Aside0.mk (bl_but HB.out hb_ HB.out.size (by have := HXg1.out; omega)); replace HS := Aside0.mk (Nat.le_trans HS.out hb_.size); clear hn_ hb_))
 go_upto_region 3 with (first | ((with_reducible refine gate_dst (N := 8) rfl ?_); refine ld_pt Hg1.out rfl _ rfl rfl ?_) | ((with_reducible refine gate_dst (N := 9) rfl ?_); refine goesL_ (some 9) rfl rfl Try.func12 (by kernel_rfl) rfl #[ptV gX gY false] rfl (by (try simp only [List.map_toArray, List.map_cons, List.map_nil]); first | done | rfl) ?_; (with_reducible refine (K2.out _).mono ?_); rintro e u4 ⟨rfl, hb_⟩; refine ⟨_, rfl, ?_⟩; replace Hg1 := Aside0.mk (Hg1.out.on hb_); replace HB := Aside0.mk (bl_on HB.out hb_ HB.out.size); replace HS := Aside0.mk (Nat.le_trans HS.out hb_.size); clear hb_) | ((with_reducible refine gate_dst (N := 2) rfl ?_); refine al_pt rfl _ rfl rfl ?_; intro g2 u5 eg_ hn_ hb_; have HXg2 : Aside0 (w.heap.size ≤ g2 ∧ g1 < g2) := Aside0.mk (by rw [eg_]; exact ⟨HS.out, Hg1.out.size⟩); replace Hg1 := Aside0.mk (Hg1.out.on hb_); replace HB := Aside0.mk (bl_on HB.out hb_ HB.out.size); replace HS := Aside0.mk (Nat.le_trans HS.out hb_.size); have Hg2 := Aside0.mk hn_; clear hn_ hb_ eg_) | ((with_reducible refine gate_st (y := .tmp 10) rfl ?_); (try simp only [aS]); refine st_pt (x := gX) (y := gZ) (f := false) Hg2.out rfl _ _ rfl rfl rfl ?_; intro u6 hn_ hb_; replace Hg1 := Aside0.mk (Hg1.out.but hb_ (by have := HXg1.out; have := HXg2.out; omega)); replace Hg2 := Aside0.mk hn_; replace HB := Aside0.mk (bl_but HB.out hb_ HB.out.size (by have := HXg1.out; have := HXg2.out; omega)); replace HS := Aside0.mk (Nat.le_trans HS.out hb_.size); clear hn_ hb_))
 go_upto_region 4 with (first | ((with_reducible refine gate_dst (N := 13) rfl ?_); refine ld_pt Hg1.out rfl _ rfl rfl ?_) | ((with_reducible refine gate_dst (N := 14) rfl ?_); refine ld_pt Hg2.out rfl _ rfl rfl ?_) | ((with_reducible refine gate_dst (N := 15) rfl ?_); refine goesL_ (some 15) rfl rfl Try.func11 (by kernel_rfl) rfl #[ptV gX gY false, ptV gX gZ false] rfl (by (try simp only [List.map_toArray, List.map_cons, List.map_nil]); first | done | rfl) ?_; (with_reducible refine (K3.out _).mono ?_); rintro e u7 ⟨rfl, hb_⟩; refine ⟨_, rfl, ?_⟩; replace Hg1 := Aside0.mk (Hg1.out.on hb_); replace Hg2 := Aside0.mk (Hg2.out.on hb_); replace HB := Aside0.mk (bl_on HB.out hb_ HB.out.size); replace HS := Aside0.mk (Nat.le_trans HS.out hb_.size); clear hb_) | ((with_reducible refine gate_dst (N := 4) rfl ?_); refine al_pt rfl _ rfl rfl ?_; intro g4 u8 eg_ hn_ hb_; have HXg4 : Aside0 (w.heap.size ≤ g4 ∧ g1 < g4 ∧ g2 < g4) := Aside0.mk (by rw [eg_]; exact ⟨HS.out, Hg1.out.size, Hg2.out.size⟩); replace Hg1 := Aside0.mk (Hg1.out.on hb_); replace Hg2 := Aside0.mk (Hg2.out.on hb_); replace HB := Aside0.mk (bl_on HB.out hb_ HB.out.size); replace HS := Aside0.mk (Nat.le_trans HS.out hb_.size); have Hg4 := Aside0.mk hn_; clear hn_ hb_ eg_) | ((with_reducible refine gate_st (y := .tmp 16) rfl ?_); (try simp only [aS]); refine st_pt (x := 0) (y := 0) (f := true) Hg4.out rfl _ _ rfl rfl rfl ?_; intro u9 hn_ hb_; replace Hg1 := Aside0.mk (Hg1.out.but hb_ (by have := HXg1.out; have := HXg2.out; have := HXg4.out; omega)); replace Hg2 := Aside0.mk (Hg2.out.but hb_ (by have := HXg1.out; have := HXg2.out; have := HXg4.out; omega)); replace Hg4 := Aside0.mk hn_; replace HB := Aside0.mk (bl_but HB.out hb_ HB.out.size (by have := HXg1.out; have := HXg2.out; have := HXg4.out; omega)); replace HS := Aside0.mk (Nat.le_trans HS.out hb_.size); clear hn_ hb_))
 go_wp2_with (first | ((with_reducible refine gate_dst (N := 18) rfl ?_); refine ld_pt Hg1.out rfl _ rfl rfl ?_) | ((with_reducible refine gate_dst (N := 19) rfl ?_); refine goesL_ (some 19) rfl rfl Try.func10 (by kernel_rfl) rfl #[ptV gX gY false] rfl (by (try simp only [List.map_toArray, List.map_cons, List.map_nil]); first | done | rfl) ?_; (with_reducible refine (K4.out _).mono ?_); rintro e u10 ⟨rfl, hb_⟩; refine ⟨_, rfl, ?_⟩; replace Hg1 := Aside0.mk (Hg1.out.on hb_); replace Hg2 := Aside0.mk (Hg2.out.on hb_); replace Hg4 := Aside0.mk (Hg4.out.on hb_); replace HB := Aside0.mk (bl_on HB.out hb_ HB.out.size); replace HS := Aside0.mk (Nat.le_trans HS.out hb_.size); clear hb_) | ((with_reducible refine gate_dst (N := 22) rfl ?_); refine wpList_step (fun K_ hK_ => ?_); refine goes_ Try.func10 (by kernel_rfl) rfl #[ptV 0 0 false] (by rfl) rfl rfl (by (try simp only [List.map_toArray, List.map_cons, List.map_nil]); first | done | rfl) ?_; (with_reducible refine (K5.out _).mono ?_); rintro e u11 ⟨rfl, hb_⟩; refine ⟨_, rfl, ?_⟩; refine hK_ _ _ ?_; clear hK_ K_; replace Hg1 := Aside0.mk (Hg1.out.on hb_); replace Hg2 := Aside0.mk (Hg2.out.on hb_); replace Hg4 := Aside0.mk (Hg4.out.on hb_); replace HB := Aside0.mk (bl_on HB.out hb_ HB.out.size); replace HS := Aside0.mk (Nat.le_trans HS.out hb_.size); clear hb_) | ((with_reducible refine gate_dst (N := 34) rfl ?_); refine ld_ptG Hg4.out (by rfl) _ rfl rfl ?_))
 go_ret
 exact ⟨rfl, HB.out⟩
end Go.Proofs.Ytkfjhndofbmhoaa
