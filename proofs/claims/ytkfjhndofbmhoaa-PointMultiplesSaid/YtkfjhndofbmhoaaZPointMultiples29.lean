/- What the proof of PointMultiples is made of, part 29. -/
import Derived.Test.YtkfjhndofbmhoaaZPointMultiples22
import Derived.Test.YtkfjhndofbmhoaaZPointMultiples19
import Derived.Test.YtkfjhndofbmhoaaZPointMultiples13
import Derived.Test.YtkfjhndofbmhoaaZPointMultiples2
import Derived.Test.YtkfjhndofbmhoaaZPointMultiples27
import Derived.Test.YtkfjhndofbmhoaaZPointMultiplesh
namespace Go.Proofs.Ytkfjhndofbmhoaa
open Go.RowKit Go.Proofs.Ytkfjhndofbmhoaa.Arr Go.Proofs.YtkfjhndofbmhoaaW.PrintWords Go.Proofs.YtkfjhndofbmhoaaW.PrintLast Go.Proofs.YtkfjhndofbmhoaaW.PrintMore
attribute [local go_sem high] eqg_num eqg_num0
set_option linter.unusedVariables false
set_option linter.unusedSimpArgs false
set_option maxRecDepth 100000 in
set_option maxHeartbeats 8000000 in
theorem rpm_calls {x y : Nat} (b_x : x < pP) (b_y : y < pP) (w : World) :
  Calls Try.prog 35 #[numV x, numV y] w fun e w' => e = .returned (numV (x * y % pP)) ∧ Below w.heap.size w w' := by
 obtain ⟨t1, e_t1⟩ : ∃ t, t = x * y % pP := ⟨_, rfl⟩
 have b_t1 : t1 < pP := by rw [e_t1]; exact mod_p _
 have K1 := Aside0.mk (fun (u : World) => rcp_calls u)
 have K2 := Aside0.mk (fun (u : World) => rmul_calls x y pP u pP_lt b_x (lt_N b_y))
 rw [← e_t1] at K2
 have hres : x * y % pP = t1 := by subst e_t1; rfl
 rw [hres]
 clear hres e_t1 b_t1 b_x b_y
 go_enter Try.func35, Try.ntmps35
 go_upto_region 1 with (fail)
 refine wp_at (w2 := (World.alloc (World.alloc (World.alloc w (.cells (nw x).toArray 24)) (.cells (nw y).toArray 24)) (.cells (nw 0).toArray 24))) rfl ?_
 obtain ⟨x_0, e_0, h_0, b_0, s_0⟩ := new_num w x
 obtain ⟨x_1, e_1, h_1, b_1, s_1⟩ := new_num x_0 y
 obtain ⟨x_2, e_2, h_2, b_2, s_2⟩ := new_num x_1 0
 rw [e_0, e_1, e_2]
 rw [s_0] at h_1 s_1
 rw [s_1] at h_2 s_2
 have HB : Aside0 (Below w.heap.size w x_2) := Aside0.mk (bl_both (bl_both b_0 b_1) b_2)
 have HA : Aside0 (NAt x_2 (w.heap.size) x) := Aside0.mk ((h_0.on b_1).on b_2)
 have HC : Aside0 (NAt x_2 (w.heap.size + 1) y) := Aside0.mk (h_1.on b_2)
 have HR : Aside0 (NAt x_2 (w.heap.size + 1 + 1) 0) := Aside0.mk h_2
 have HS : Aside0 (w.heap.size + 1 + 1 + 1 ≤ x_2.heap.size) := Aside0.mk (Nat.le_of_eq s_2.symm)
 clear e_0 h_0 b_0 s_0 e_1 h_1 b_1 s_1 e_2 h_2 b_2 s_2
 obtain ⟨w1, hw_⟩ : ∃ x, x = x_2 := ⟨_, rfl⟩
 subst hw_
 clear x_0 x_1
 refine start_ (n := 5) (S := fun w' => Below w1.heap.size w1 w') (ds := [4]) #[false, false, false, false, false] (by kernel_rfl) rfl rfl ((Below.refl _ _).drew) (fun hHeld => ?_)
 refine take_ (i := 0) (N := some 5) (a' := ?_) #[true, false, false, false, false] rfl rfl (by kernel_rfl) (fun _ _ _ h => h) (yields_num (g := w.heap.size) (o := 0) (n := x) (by rfl) (.tmp 2) rfl rfl (fun w' hS => (HA.out.on hS).range)) hHeld ?_ ?_
 rotate_left
 ·simp only [aS, i64_w, i32_w]
  rfl
 refine take_ (i := 1) (N := some 6) (a' := ?_) #[true, true, false, false, false] rfl rfl (by kernel_rfl) (fun _ _ _ h => h) (yields_num (g := w.heap.size + 1) (o := 0) (n := y) (by rfl) (.tmp 3) rfl rfl (fun w' hS => (HC.out.on hS).range)) hHeld ?_ ?_
 rotate_left
 ·simp only [aS, i64_w, i32_w]
  rfl
 refine on1_ 2 (some 7) #[true, true, true, false, false] rfl fun K hK => ?_
 refine goes_ Try.func15 (by kernel_rfl) rfl #[] (by rfl) rfl rfl (by first | rfl | simp only [List.map_toArray, List.map_cons, List.map_nil]) ?_
 with_reducible refine (K1.out _).mono ?_
 rintro e u1 ⟨rfl, hb_u1⟩
 refine ⟨_, rfl, ?_⟩
 have hq_u1 := bl_on hHeld hb_u1 hHeld.size
 refine hK.out _ _ (hq_u1) (fun hHeld => ?_)
 clear hK K
 refine nm_ (some 7) ?_
 refine on1_ 3 (some 8) #[true, true, true, true, false] rfl fun K hK => ?_
 refine gs_ Try.func61 #[numV x, numV y, numV pP] rfl ?_
 with_reducible refine (K2.out _).mono ?_
 rintro e u2 ⟨rfl, hb_u2⟩
 refine ⟨_, rfl, ?_⟩
 have hq_u2 := bl_on hHeld hb_u2 hHeld.size
 refine hK.out _ _ (hq_u2) (fun hHeld => ?_)
 clear hK K
 refine nm_ (some 8) ?_
 refine last_ (i := 4) (N := none) #[true, true, true, true, true] rfl rfl (by kernel_rfl) (by decide) (fun K hK => ?_)
 refine skip_num (HR.out.on hHeld) (by rfl) rfl (.tmp 4) (.tmp 8) rfl rfl rfl ?_
 intro q3 hA_q3 hT_q3
 refine hK.out _ _ ?_
 clear hK K
 refine done_ (by kernel_rfl) ?_
 replace HA := Aside0.mk (HA.out.on hHeld)
 replace HC := Aside0.mk (HC.out.on hHeld)
 replace HR := Aside0.mk (HR.out.on hHeld)
 replace HB := Aside0.mk (bl_on HB.out hHeld HB.out.size)
 replace HS := Aside0.mk (Nat.le_trans HS.out hHeld.size)
 replace HA := Aside0.mk (HA.out.but hT_q3 (by omega))
 replace HC := Aside0.mk (HC.out.but hT_q3 (by omega))
 replace HR := Aside0.mk hA_q3
 replace HB := Aside0.mk (bl_but HB.out hT_q3 HB.out.size (by omega))
 replace HS := Aside0.mk (Nat.le_trans HS.out hT_q3.size)
 clear hA_q3 hT_q3 hb_u1 hb_u2 hHeld
 go_wp2
 exact bodyPost_ret (v := numV t1) (results_nat rfl rfl HR.out) rfl ⟨rfl, HB.out⟩
set_option maxRecDepth 100000 in
set_option maxHeartbeats 8000000 in
theorem rps_calls {x y : Nat} (b_x : x < pP) (b_y : y < pP) (w : World) :
  Calls Try.prog 37 #[numV x, numV y] w fun e w' => e = .returned (numV ((x + pP - y) % pP)) ∧ Below w.heap.size w w' := by
 obtain ⟨t1, e_t1⟩ : ∃ t, t = (x + pP - y) % pP := ⟨_, rfl⟩
 have b_t1 : t1 < pP := by rw [e_t1]; exact mod_p _
 have K1 := Aside0.mk (fun (u : World) => rcp_calls u)
 have K2 := Aside0.mk (fun (u : World) => rsub_calls x y pP u pP_lt b_x b_y)
 rw [← e_t1] at K2
 have hres : (x + pP - y) % pP = t1 := by subst e_t1; rfl
 rw [hres]
 clear hres e_t1 b_t1 b_x b_y
 go_enter Try.func37, Try.ntmps37
 go_upto_region 1 with (fail)
 refine wp_at (w2 := (World.alloc (World.alloc (World.alloc w (.cells (nw x).toArray 24)) (.cells (nw y).toArray 24)) (.cells (nw 0).toArray 24))) rfl ?_
 obtain ⟨x_0, e_0, h_0, b_0, s_0⟩ := new_num w x
 obtain ⟨x_1, e_1, h_1, b_1, s_1⟩ := new_num x_0 y
 obtain ⟨x_2, e_2, h_2, b_2, s_2⟩ := new_num x_1 0
 rw [e_0, e_1, e_2]
 rw [s_0] at h_1 s_1
 rw [s_1] at h_2 s_2
 have HB : Aside0 (Below w.heap.size w x_2) := Aside0.mk (bl_both (bl_both b_0 b_1) b_2)
 have HA : Aside0 (NAt x_2 (w.heap.size) x) := Aside0.mk ((h_0.on b_1).on b_2)
 have HC : Aside0 (NAt x_2 (w.heap.size + 1) y) := Aside0.mk (h_1.on b_2)
 have HR : Aside0 (NAt x_2 (w.heap.size + 1 + 1) 0) := Aside0.mk h_2
 have HS : Aside0 (w.heap.size + 1 + 1 + 1 ≤ x_2.heap.size) := Aside0.mk (Nat.le_of_eq s_2.symm)
 clear e_0 h_0 b_0 s_0 e_1 h_1 b_1 s_1 e_2 h_2 b_2 s_2
 obtain ⟨w1, hw_⟩ : ∃ x, x = x_2 := ⟨_, rfl⟩
 subst hw_
 clear x_0 x_1
 refine start_ (n := 5) (S := fun w' => Below w1.heap.size w1 w') (ds := [4]) #[false, false, false, false, false] (by kernel_rfl) rfl rfl ((Below.refl _ _).drew) (fun hHeld => ?_)
 refine take_ (i := 0) (N := some 5) (a' := ?_) #[true, false, false, false, false] rfl rfl (by kernel_rfl) (fun _ _ _ h => h) (yields_num (g := w.heap.size) (o := 0) (n := x) (by rfl) (.tmp 2) rfl rfl (fun w' hS => (HA.out.on hS).range)) hHeld ?_ ?_
 rotate_left
 ·simp only [aS, i64_w, i32_w]
  rfl
 refine take_ (i := 1) (N := some 6) (a' := ?_) #[true, true, false, false, false] rfl rfl (by kernel_rfl) (fun _ _ _ h => h) (yields_num (g := w.heap.size + 1) (o := 0) (n := y) (by rfl) (.tmp 3) rfl rfl (fun w' hS => (HC.out.on hS).range)) hHeld ?_ ?_
 rotate_left
 ·simp only [aS, i64_w, i32_w]
  rfl
 refine on1_ 2 (some 7) #[true, true, true, false, false] rfl fun K hK => ?_
 refine goes_ Try.func15 (by kernel_rfl) rfl #[] (by rfl) rfl rfl (by first | rfl | simp only [List.map_toArray, List.map_cons, List.map_nil]) ?_
 with_reducible refine (K1.out _).mono ?_
 rintro e u4 ⟨rfl, hb_u4⟩
 refine ⟨_, rfl, ?_⟩
 have hq_u4 := bl_on hHeld hb_u4 hHeld.size
 refine hK.out _ _ (hq_u4) (fun hHeld => ?_)
 clear hK K
 refine nm_ (some 7) ?_
 refine on1_ 3 (some 8) #[true, true, true, true, false] rfl fun K hK => ?_
 refine gs_ Try.func65 #[numV x, numV y, numV pP] rfl ?_
 with_reducible refine (K2.out _).mono ?_
 rintro e u5 ⟨rfl, hb_u5⟩
 refine ⟨_, rfl, ?_⟩
 have hq_u5 := bl_on hHeld hb_u5 hHeld.size
 refine hK.out _ _ (hq_u5) (fun hHeld => ?_)
 clear hK K
 refine nm_ (some 8) ?_
 refine last_ (i := 4) (N := none) #[true, true, true, true, true] rfl rfl (by kernel_rfl) (by decide) (fun K hK => ?_)
 refine skip_num (HR.out.on hHeld) (by rfl) rfl (.tmp 4) (.tmp 8) rfl rfl rfl ?_
 intro q6 hA_q6 hT_q6
 refine hK.out _ _ ?_
 clear hK K
 refine done_ (by kernel_rfl) ?_
 replace HA := Aside0.mk (HA.out.on hHeld)
 replace HC := Aside0.mk (HC.out.on hHeld)
 replace HR := Aside0.mk (HR.out.on hHeld)
 replace HB := Aside0.mk (bl_on HB.out hHeld HB.out.size)
 replace HS := Aside0.mk (Nat.le_trans HS.out hHeld.size)
 replace HA := Aside0.mk (HA.out.but hT_q6 (by omega))
 replace HC := Aside0.mk (HC.out.but hT_q6 (by omega))
 replace HR := Aside0.mk hA_q6
 replace HB := Aside0.mk (bl_but HB.out hT_q6 HB.out.size (by omega))
 replace HS := Aside0.mk (Nat.le_trans HS.out hT_q6.size)
 clear hA_q6 hT_q6 hb_u4 hb_u5 hHeld
 go_wp2
 exact bodyPost_ret (v := numV t1) (results_nat rfl rfl HR.out) rfl ⟨rfl, HB.out⟩
theorem rcmp_below {a : Nat} (h : a < pP) (w : World) : Calls Try.prog 34 #[numV a, numV pP] w fun e w' => e = .returned (.int .i64 (-1)) ∧ Below w.heap.size w w' := by
 have := rcmp_calls (IsNum.mk (lt_N h)) (IsNum.mk pP_lt) w
 unfold cmpI at this
 rw [if_pos h] at this
 exact this
theorem rcmp_above {a : Nat} (ha : a < N256) (h : ¬ a < pP) : ∃ c : Int, 0 ≤ c ∧ ∀ w, Calls Try.prog 34 #[numV a, numV pP] w fun e w' => e = .returned (.int .i64 c) ∧ Below w.heap.size w w' := by
 refine ⟨cmpI a pP, ?_, fun w => rcmp_calls (IsNum.mk ha) (IsNum.mk pP_lt) w⟩
 unfold cmpI
 rw [if_neg h]
 split <;> decide
set_option maxRecDepth 100000 in
set_option maxHeartbeats 8000000 in
theorem ron_far0 {x y : Nat} (hx : x < N256) (hy : y < N256) (h0 : x = 0) (w : World) :
  Calls Try.prog 13 #[ptV x y true] w fun e w' => e = .returned (.bool (onB x y true)) ∧ Below w.heap.size w w' := by
 have hq := fun w => eql_zero hx w
 have hr := fun w => eql_zero hy w
 rw [decide_eq_true h0] at hq
 have hres : onB x y true = decide (y = 0) := by unfold onB; rw [if_pos rfl, h0]; simp
 rw [hres]
 generalize decide (y = 0) = D at *
 clear hres hx hy h0
 go_enter Try.func13, Try.ntmps13
 go_upto_region 1 with (fail)
 refine wp_at (w2 := (World.alloc w (.cells (pw x y true).toArray 26))) rfl ?_
 obtain ⟨x_0, e_0, h_0, b_0, s_0⟩ := new_PtAt w x y true
 rw [e_0]
 have HB : Aside0 (Below w.heap.size w x_0) := Aside0.mk b_0
 have HA : Aside0 (PtAt x_0 (w.heap.size) x y true) := Aside0.mk h_0
 have HS : Aside0 (w.heap.size + 1 ≤ x_0.heap.size) := Aside0.mk (Nat.le_of_eq s_0.symm)
 clear e_0 h_0 b_0 s_0
 obtain ⟨w1, hw_⟩ : ∃ x, x = x_0 := ⟨_, rfl⟩
 subst hw_
 have cq0 := HA.out.far
 go_upto_region 2 with (fail)
 clear cq0
 go_wp2_with (first | ((with_reducible refine gate_dst (N := 8) rfl ?_); refine ld_num (HA.out.rx) rfl _ rfl rfl ?_) | ((with_reducible refine gate_dst (N := 13) rfl ?_); refine ld_numG (HA.out.ry) (by rfl) _ rfl rfl ?_))
 go_ret
 exact ⟨rfl, HB.out⟩
set_option maxRecDepth 100000 in
set_option maxHeartbeats 8000000 in
theorem ron_far1 {x y : Nat} (hx : x < N256) (hy : y < N256) (h0 : x ≠ 0) (w : World) :
  Calls Try.prog 13 #[ptV x y true] w fun e w' => e = .returned (.bool (onB x y true)) ∧ Below w.heap.size w w' := by
 have hq := fun w => eql_zero hx w
 rw [decide_eq_false h0] at hq
 have hres : onB x y true = false := by unfold onB; rw [if_pos rfl]; exact decide_eq_false (fun e => h0 e.1)
 rw [hres]
 clear hres hx hy h0
 go_enter Try.func13, Try.ntmps13
 go_upto_region 1 with (fail)
 refine wp_at (w2 := (World.alloc w (.cells (pw x y true).toArray 26))) rfl ?_
 obtain ⟨x_0, e_0, h_0, b_0, s_0⟩ := new_PtAt w x y true
 rw [e_0]
 have HB : Aside0 (Below w.heap.size w x_0) := Aside0.mk b_0
 have HA : Aside0 (PtAt x_0 (w.heap.size) x y true) := Aside0.mk h_0
 have HS : Aside0 (w.heap.size + 1 ≤ x_0.heap.size) := Aside0.mk (Nat.le_of_eq s_0.symm)
 clear e_0 h_0 b_0 s_0
 obtain ⟨w1, hw_⟩ : ∃ x, x = x_0 := ⟨_, rfl⟩
 subst hw_
 have cq0 := HA.out.far
 go_upto_region 2 with (fail)
 clear cq0
 go_wp2_with (first | ((with_reducible refine gate_dst (N := 8) rfl ?_); refine ld_num (HA.out.rx) rfl _ rfl rfl ?_) | ((with_reducible refine gate_dst (N := 13) rfl ?_); refine ld_numG (HA.out.ry) (by rfl) _ rfl rfl ?_))
 go_ret
 exact ⟨rfl, HB.out⟩
set_option maxRecDepth 100000 in
set_option maxHeartbeats 8000000 in
theorem ron_x {x y : Nat} (hx : x < N256) (nx : ¬ x < pP) (w : World) :
  Calls Try.prog 13 #[ptV x y false] w fun e w' => e = .returned (.bool (onB x y false)) ∧ Below w.heap.size w w' := by
 obtain ⟨c, hc, HK⟩ := rcmp_above hx nx
 have d1 : decide (0 ≤ c) = true := decide_eq_true hc
 have hres : onB x y false = false := by unfold onB; simp; omega
 rw [hres]
 clear hres
 have K1 := Aside0.mk (fun (u : World) => rcp_calls u)
 have K2 := Aside0.mk HK
 clear HK nx hx
 go_enter Try.func13, Try.ntmps13
 go_upto_region 1 with (fail)
 refine wp_at (w2 := (World.alloc w (.cells (pw x y false).toArray 26))) rfl ?_
 obtain ⟨x_0, e_0, h_0, b_0, s_0⟩ := new_PtAt w x y false
 rw [e_0]
 have HB : Aside0 (Below w.heap.size w x_0) := Aside0.mk b_0
 have HA : Aside0 (PtAt x_0 (w.heap.size) x y false) := Aside0.mk h_0
 have HS : Aside0 (w.heap.size + 1 ≤ x_0.heap.size) := Aside0.mk (Nat.le_of_eq s_0.symm)
 clear e_0 h_0 b_0 s_0
 obtain ⟨w1, hw_⟩ : ∃ x, x = x_0 := ⟨_, rfl⟩
 subst hw_
 have cq0 := HA.out.far
 go_upto_region 3 with (fail)
 clear cq0
 refine start_ (n := 12) (S := fun w' => Below w1.heap.size w1 w') (ds := []) (bs 12 0) (by kernel_rfl) rfl rfl ((Below.refl _ _).drew) (fun hHeld => ?_)
 refine pu_ 0 17 (bs 12 1) ?_ ?_ ?_ ?_ ?_
 rotate_left
 ·intro w'
  go_simp
  with_reducible rfl
 rotate_left
 ·simp only [aS, i64_w, i32_w]
  rfl
 refine take_ (i := 1) (N := some 18) (a' := ?_) (bs 12 3) rfl rfl (by kernel_rfl) (fun _ _ _ h => h) (yields_num (g := w.heap.size) (o := 0) (n := x) (by rfl) (.tmp 17) rfl rfl (fun w' hS => (HA.out.on hS).rx)) hHeld ?_ ?_
 rotate_left
 ·simp only [aS, i64_w, i32_w]
  rfl
 refine on1_ 2 (some 19) (bs 12 7) rfl fun K hK => ?_
 refine goes_ Try.func15 (by kernel_rfl) rfl #[] (by rfl) rfl rfl (by first | rfl | simp only [List.map_toArray, List.map_cons, List.map_nil]) ?_
 with_reducible refine (K1.out _).mono ?_
 rintro e u7 ⟨rfl, hb_u7⟩
 refine ⟨_, rfl, ?_⟩
 have hq_u7 := bl_on hHeld hb_u7 hHeld.size
 refine hK.out _ _ (hq_u7) (fun hHeld => ?_)
 clear hK K
 refine nm_ (some 19) ?_
 refine on1_ 3 (some 20) (bs 12 15) rfl fun K hK => ?_
 refine gs_ Try.func34 #[numV x, numV pP] rfl ?_
 with_reducible refine (K2.out _).mono ?_
 rintro e u8 ⟨rfl, hb_u8⟩
 refine ⟨_, rfl, ?_⟩
 have hq_u8 := bl_on hHeld hb_u8 hHeld.size
 refine hK.out _ _ (hq_u8) (fun hHeld => ?_)
 clear hK K
 refine nm_ (some 20) ?_
 refine pu_ 4 21 (bs 12 31) ?_ ?_ ?_ ?_ ?_
 rotate_left
 ·intro w'
  go_simp
  with_reducible rfl
 rotate_left
 ·simp only [aS, i64_w, i32_w]
  rfl
 refine pu_ 5 22 (bs 12 63) ?_ ?_ ?_ ?_ ?_
 rotate_left
 ·intro w'
  go_simp
  with_reducible rfl
 rotate_left
 ·simp only [aS, i64_w, i32_w]
  rfl
 refine pv_ 6 23 (bs 12 127) ?_ ?_ ?_
 rotate_left
 ·simp only [aS, i64_w, i32_w]
  rfl
 refine pv_ 7 24 (bs 12 255) ?_ ?_ ?_
 rotate_left
 ·simp only [aS, i64_w, i32_w]
  rfl
 refine pv_ 8 25 (bs 12 511) ?_ ?_ ?_
 rotate_left
 ·simp only [aS, i64_w, i32_w]
  rfl
 refine pv_ 9 26 (bs 12 1023) ?_ ?_ ?_
 rotate_left
 ·simp only [aS, i64_w, i32_w]
  rfl
 refine pv_ 10 27 (bs 12 2047) ?_ ?_ ?_
 rotate_left
 ·simp only [aS, i64_w, i32_w]
  rfl
 refine pu_ 11 28 (bs 12 4095) ?_ ?_ ?_ ?_ ?_
 rotate_left
 ·intro w'
  go_simp
  with_reducible rfl
 rotate_left
 ·simp only [aS, i64_w, i32_w]
  rfl
 refine done_ (by kernel_rfl) ?_
 replace HA := Aside0.mk (HA.out.on hHeld)
 replace HB := Aside0.mk (bl_on HB.out hHeld HB.out.size)
 replace HS := Aside0.mk (Nat.le_trans HS.out hHeld.size)
 clear hb_u7 hb_u8 hHeld
 go_wp2
 go_ret
 exact ⟨rfl, HB.out⟩
set_option maxRecDepth 100000 in
set_option maxHeartbeats 8000000 in
theorem ron_y {x y : Nat} (b_x : x < pP) (hy : y < N256) (ny : ¬ y < pP) (w : World) :
  Calls Try.prog 13 #[ptV x y false] w fun e w' => e = .returned (.bool (onB x y false)) ∧ Below w.heap.size w w' := by
 obtain ⟨c, hc, HK⟩ := rcmp_above hy ny
 have d1 : decide (0 ≤ c) = true := decide_eq_true hc
 have hres : onB x y false = false := by unfold onB; simp; omega
 rw [hres]
 clear hres
 have K1 := Aside0.mk (fun (u : World) => rcp_calls u)
 have K2 := Aside0.mk (fun (u : World) => rcmp_below b_x u)
 have K3 := Aside0.mk HK
 clear HK ny hy b_x
 go_enter Try.func13, Try.ntmps13
 go_upto_region 1 with (fail)
 refine wp_at (w2 := (World.alloc w (.cells (pw x y false).toArray 26))) rfl ?_
 obtain ⟨x_0, e_0, h_0, b_0, s_0⟩ := new_PtAt w x y false
 rw [e_0]
 have HB : Aside0 (Below w.heap.size w x_0) := Aside0.mk b_0
 have HA : Aside0 (PtAt x_0 (w.heap.size) x y false) := Aside0.mk h_0
 have HS : Aside0 (w.heap.size + 1 ≤ x_0.heap.size) := Aside0.mk (Nat.le_of_eq s_0.symm)
 clear e_0 h_0 b_0 s_0
 obtain ⟨w1, hw_⟩ : ∃ x, x = x_0 := ⟨_, rfl⟩
 subst hw_
 have cq0 := HA.out.far
 go_upto_region 3 with (fail)
 clear cq0
 refine start_ (n := 12) (S := fun w' => Below w1.heap.size w1 w') (ds := []) (bs 12 0) (by kernel_rfl) rfl rfl ((Below.refl _ _).drew) (fun hHeld => ?_)
 refine pu_ 0 17 (bs 12 1) ?_ ?_ ?_ ?_ ?_
 rotate_left
 ·intro w'
  go_simp
  with_reducible rfl
 rotate_left
 ·simp only [aS, i64_w, i32_w]
  rfl
 refine take_ (i := 1) (N := some 18) (a' := ?_) (bs 12 3) rfl rfl (by kernel_rfl) (fun _ _ _ h => h) (yields_num (g := w.heap.size) (o := 0) (n := x) (by rfl) (.tmp 17) rfl rfl (fun w' hS => (HA.out.on hS).rx)) hHeld ?_ ?_
 rotate_left
 ·simp only [aS, i64_w, i32_w]
  rfl
 refine on1_ 2 (some 19) (bs 12 7) rfl fun K hK => ?_
 refine goes_ Try.func15 (by kernel_rfl) rfl #[] (by rfl) rfl rfl (by first | rfl | simp only [List.map_toArray, List.map_cons, List.map_nil]) ?_
 with_reducible refine (K1.out _).mono ?_
 rintro e u9 ⟨rfl, hb_u9⟩
 refine ⟨_, rfl, ?_⟩
 have hq_u9 := bl_on hHeld hb_u9 hHeld.size
 refine hK.out _ _ (hq_u9) (fun hHeld => ?_)
 clear hK K
 refine nm_ (some 19) ?_
 refine on1_ 3 (some 20) (bs 12 15) rfl fun K hK => ?_
 refine gs_ Try.func34 #[numV x, numV pP] rfl ?_
 with_reducible refine (K2.out _).mono ?_
 rintro e u10 ⟨rfl, hb_u10⟩
 refine ⟨_, rfl, ?_⟩
 have hq_u10 := bl_on hHeld hb_u10 hHeld.size
 refine hK.out _ _ (hq_u10) (fun hHeld => ?_)
 clear hK K
 refine nm_ (some 20) ?_
 refine pu_ 4 21 (bs 12 31) ?_ ?_ ?_ ?_ ?_
 rotate_left
 ·intro w'
  go_simp
  with_reducible rfl
 rotate_left
 ·simp only [aS, i64_w, i32_w]
  rfl
 refine pu_ 5 22 (bs 12 63) ?_ ?_ ?_ ?_ ?_
 rotate_left
 ·intro w'
  go_simp
  with_reducible rfl
 rotate_left
 ·simp only [aS, i64_w, i32_w]
  rfl
 refine pu_ 6 23 (bs 12 127) ?_ ?_ ?_ ?_ ?_
 rotate_left
 ·intro w'
  go_simp
  with_reducible rfl
 rotate_left
 ·simp only [aS, i64_w, i32_w]
  rfl
 refine take_ (i := 7) (N := some 24) (a' := ?_) (bs 12 255) rfl rfl (by kernel_rfl) (fun _ _ _ h => h) (yields_num (g := w.heap.size) (o := 4) (n := y) (by rfl) (.tmp 23) rfl rfl (fun w' hS => (HA.out.on hS).ry)) hHeld ?_ ?_
 rotate_left
 ·simp only [aS, i64_w, i32_w]
  rfl
 refine on1_ 8 (some 25) (bs 12 511) rfl fun K hK => ?_
 refine goes_ Try.func15 (by kernel_rfl) rfl #[] (by rfl) rfl rfl (by first | rfl | simp only [List.map_toArray, List.map_cons, List.map_nil]) ?_
 with_reducible refine (K1.out _).mono ?_
 rintro e u11 ⟨rfl, hb_u11⟩
 refine ⟨_, rfl, ?_⟩
 have hq_u11 := bl_on hHeld hb_u11 hHeld.size
 refine hK.out _ _ (hq_u11) (fun hHeld => ?_)
 clear hK K
 refine nm_ (some 25) ?_
 refine on1_ 9 (some 26) (bs 12 1023) rfl fun K hK => ?_
 refine gs_ Try.func34 #[numV y, numV pP] rfl ?_
 with_reducible refine (K3.out _).mono ?_
 rintro e u12 ⟨rfl, hb_u12⟩
 refine ⟨_, rfl, ?_⟩
 have hq_u12 := bl_on hHeld hb_u12 hHeld.size
 refine hK.out _ _ (hq_u12) (fun hHeld => ?_)
 clear hK K
 refine nm_ (some 26) ?_
 refine pu_ 10 27 (bs 12 2047) ?_ ?_ ?_ ?_ ?_
 rotate_left
 ·intro w'
  go_simp
  with_reducible rfl
 rotate_left
 ·simp only [aS, i64_w, i32_w]
  rfl
 refine pu_ 11 28 (bs 12 4095) ?_ ?_ ?_ ?_ ?_
 rotate_left
 ·intro w'
  go_simp
  with_reducible rfl
 rotate_left
 ·simp only [aS, i64_w, i32_w]
  rfl
 refine done_ (by kernel_rfl) ?_
 replace HA := Aside0.mk (HA.out.on hHeld)
 replace HB := Aside0.mk (bl_on HB.out hHeld HB.out.size)
 replace HS := Aside0.mk (Nat.le_trans HS.out hHeld.size)
 clear hb_u9 hb_u10 hb_u11 hb_u12 hHeld
 go_wp2
 go_ret
 exact ⟨rfl, HB.out⟩
set_option maxRecDepth 100000 in
set_option maxHeartbeats 8000000 in
theorem ron_ok {x y : Nat} (b_x : x < pP) (b_y : y < pP) (w : World) :
  Calls Try.prog 13 #[ptV x y false] w fun e w' => e = .returned (.bool (onB x y false)) ∧ Below w.heap.size w w' := by
 obtain ⟨t1, e_t1⟩ : ∃ t, t = x * x % pP := ⟨_, rfl⟩
 have b_t1 : t1 < pP := by rw [e_t1]; exact mod_p _
 obtain ⟨t2, e_t2⟩ : ∃ t, t = t1 * x % pP := ⟨_, rfl⟩
 have b_t2 : t2 < pP := by rw [e_t2]; exact mod_p _
 obtain ⟨t3, e_t3⟩ : ∃ t, t = 3 * x % pP := ⟨_, rfl⟩
 have b_t3 : t3 < pP := by rw [e_t3]; exact mod_p _
 obtain ⟨t4, e_t4⟩ : ∃ t, t = y * y % pP := ⟨_, rfl⟩
 have b_t4 : t4 < pP := by rw [e_t4]; exact mod_p _
 obtain ⟨t5, e_t5⟩ : ∃ t, t = (t2 + pP - t3) % pP := ⟨_, rfl⟩
 have b_t5 : t5 < pP := by rw [e_t5]; exact mod_p _
 obtain ⟨t6, e_t6⟩ : ∃ t, t = (t5 + cB) % pP := ⟨_, rfl⟩
 have b_t6 : t6 < pP := by rw [e_t6]; exact mod_p _
 have K1 := Aside0.mk (fun (u : World) => rcp_calls u)
 have K2 := Aside0.mk (fun (u : World) => rcmp_below b_x u)
 have K3 := Aside0.mk (fun (u : World) => rcmp_below b_y u)
 have K4 := Aside0.mk (fun (u : World) => rpm_calls b_x b_x u)
 have K5 := Aside0.mk (fun (u : World) => rpm_calls b_t1 b_x u)
 have K6 := Aside0.mk (fun (u : World) => rpm_calls (show 3 < pP by decide +kernel) b_x u)
 have K7 := Aside0.mk (fun (u : World) => rpm_calls b_y b_y u)
 have K8 := Aside0.mk (fun (u : World) => rps_calls b_t2 b_t3 u)
 have K9 := Aside0.mk (fun (u : World) => rcb_calls u)
 have K10 := Aside0.mk (fun (u : World) => fadd_calls (IsNum.mk (lt_N b_t5)) (IsNum.mk (lt_N cB_lt)) (IsNum.mk pP_lt) b_t5 cB_lt u)
 rw [← e_t1] at K4
 rw [← e_t2] at K5
 rw [← e_t3] at K6
 rw [← e_t4] at K7
 rw [← e_t5] at K8
 rw [← e_t6] at K10
 have hres : onB x y false = decide (t4 = t6) := by
  have e1 : mmp y y = t4 := by rw [e_t4]; rfl
  have e0 : mmp x 3 = t3 := by rw [e_t3]; show x * 3 % pP = 3 * x % pP; rw [Nat.mul_comm]
  have e2 : adp (msp (mmp (mmp x x) x) (mmp x 3)) cB = t6 := by rw [e0, e_t6, e_t5, e_t2, e_t1]; rfl
  rw [on_iff b_x b_y, e1, e2]
 rw [hres]
 have hq := fun w => eql_num (lt_N b_t4) (lt_N b_t6) w
 generalize decide (t4 = t6) = D at *
 clear e_t1 e_t2 e_t3 e_t4 e_t5 e_t6 b_t1 b_t2 b_t3 b_t4 b_t5 b_t6 hres b_x b_y
 go_enter Try.func13, Try.ntmps13
 go_upto_region 1 with (fail)
 refine wp_at (w2 := (World.alloc w (.cells (pw x y false).toArray 26))) rfl ?_
 obtain ⟨x_0, e_0, h_0, b_0, s_0⟩ := new_PtAt w x y false
 rw [e_0]
 have HB : Aside0 (Below w.heap.size w x_0) := Aside0.mk b_0
 have HA : Aside0 (PtAt x_0 (w.heap.size) x y false) := Aside0.mk h_0
 have HS : Aside0 (w.heap.size + 1 ≤ x_0.heap.size) := Aside0.mk (Nat.le_of_eq s_0.symm)
 clear e_0 h_0 b_0 s_0
 obtain ⟨w1, hw_⟩ : ∃ x, x = x_0 := ⟨_, rfl⟩
 subst hw_
 have cq0 := HA.out.far
 go_upto_region 3 with (fail)
 clear cq0
 refine start_ (n := 12) (S := fun w' => Below w1.heap.size w1 w') (ds := []) (bs 12 0) (by kernel_rfl) rfl rfl ((Below.refl _ _).drew) (fun hHeld => ?_)
 refine pu_ 0 17 (bs 12 1) ?_ ?_ ?_ ?_ ?_
 rotate_left
 ·intro w'
  go_simp
  with_reducible rfl
 rotate_left
 ·simp only [aS, i64_w, i32_w]
  rfl
 refine take_ (i := 1) (N := some 18) (a' := ?_) (bs 12 3) rfl rfl (by kernel_rfl) (fun _ _ _ h => h) (yields_num (g := w.heap.size) (o := 0) (n := x) (by rfl) (.tmp 17) rfl rfl (fun w' hS => (HA.out.on hS).rx)) hHeld ?_ ?_
 rotate_left
 ·simp only [aS, i64_w, i32_w]
  rfl
 refine on1_ 2 (some 19) (bs 12 7) rfl fun K hK => ?_
 refine goes_ Try.func15 (by kernel_rfl) rfl #[] (by rfl) rfl rfl (by first | rfl | simp only [List.map_toArray, List.map_cons, List.map_nil]) ?_
 with_reducible refine (K1.out _).mono ?_
 rintro e u13 ⟨rfl, hb_u13⟩
 refine ⟨_, rfl, ?_⟩
 have hq_u13 := bl_on hHeld hb_u13 hHeld.size
 refine hK.out _ _ (hq_u13) (fun hHeld => ?_)
 clear hK K
 refine nm_ (some 19) ?_
 refine on1_ 3 (some 20) (bs 12 15) rfl fun K hK => ?_
 refine gs_ Try.func34 #[numV x, numV pP] rfl ?_
 with_reducible refine (K2.out _).mono ?_
 rintro e u14 ⟨rfl, hb_u14⟩
 refine ⟨_, rfl, ?_⟩
 have hq_u14 := bl_on hHeld hb_u14 hHeld.size
 refine hK.out _ _ (hq_u14) (fun hHeld => ?_)
 clear hK K
 refine nm_ (some 20) ?_
 refine pu_ 4 21 (bs 12 31) ?_ ?_ ?_ ?_ ?_
 rotate_left
 ·intro w'
  go_simp
  with_reducible rfl
 rotate_left
 ·simp only [aS, i64_w, i32_w]
  rfl
 refine pu_ 5 22 (bs 12 63) ?_ ?_ ?_ ?_ ?_
 rotate_left
 ·intro w'
  go_simp
  with_reducible rfl
 rotate_left
 ·simp only [aS, i64_w, i32_w]
  rfl
 refine pu_ 6 23 (bs 12 127) ?_ ?_ ?_ ?_ ?_
 rotate_left
 ·intro w'
  go_simp
  with_reducible rfl
 rotate_left
 ·simp only [aS, i64_w, i32_w]
  rfl
 refine take_ (i := 7) (N := some 24) (a' := ?_) (bs 12 255) rfl rfl (by kernel_rfl) (fun _ _ _ h => h) (yields_num (g := w.heap.size) (o := 4) (n := y) (by rfl) (.tmp 23) rfl rfl (fun w' hS => (HA.out.on hS).ry)) hHeld ?_ ?_
 rotate_left
 ·simp only [aS, i64_w, i32_w]
  rfl
 refine on1_ 8 (some 25) (bs 12 511) rfl fun K hK => ?_
 refine goes_ Try.func15 (by kernel_rfl) rfl #[] (by rfl) rfl rfl (by first | rfl | simp only [List.map_toArray, List.map_cons, List.map_nil]) ?_
 with_reducible refine (K1.out _).mono ?_
 rintro e u15 ⟨rfl, hb_u15⟩
 refine ⟨_, rfl, ?_⟩
 have hq_u15 := bl_on hHeld hb_u15 hHeld.size
 refine hK.out _ _ (hq_u15) (fun hHeld => ?_)
 clear hK K
 refine nm_ (some 25) ?_
 refine on1_ 9 (some 26) (bs 12 1023) rfl fun K hK => ?_
 refine gs_ Try.func34 #[numV y, numV pP] rfl ?_
 with_reducible refine (K3.out _).mono ?_
 rintro e u16 ⟨rfl, hb_u16⟩
 refine ⟨_, rfl, ?_⟩
 have hq_u16 := bl_on hHeld hb_u16 hHeld.size
 refine hK.out _ _ (hq_u16) (fun hHeld => ?_)
 clear hK K
 refine nm_ (some 26) ?_
 refine pu_ 10 27 (bs 12 2047) ?_ ?_ ?_ ?_ ?_
 rotate_left
 ·intro w'
  go_simp
  with_reducible rfl
 rotate_left
 ·simp only [aS, i64_w, i32_w]
  rfl
 refine pu_ 11 28 (bs 12 4095) ?_ ?_ ?_ ?_ ?_
 rotate_left
 ·intro w'
  go_simp
  with_reducible rfl
 rotate_left
 ·simp only [aS, i64_w, i32_w]
  rfl
 refine done_ (by kernel_rfl) ?_
 replace HA := Aside0.mk (HA.out.on hHeld)
 replace HB := Aside0.mk (bl_on HB.out hHeld HB.out.size)
 replace HS := Aside0.mk (Nat.le_trans HS.out hHeld.size)
 clear hb_u13 hb_u14 hb_u15 hb_u16 hHeld
 go_wp2
 refine start_ (n := 10) (S := fun w' => Below u16.heap.size u16 w') (ds := [9]) (bs 10 0) (by kernel_rfl) rfl rfl ((Below.refl _ _).drew) (fun hHeld => ?_)
 refine pu_ 0 29 (bs 10 1) ?_ ?_ ?_ ?_ ?_
 rotate_left
 ·intro w'
  go_simp
  with_reducible rfl
 rotate_left
 ·simp only [aS, i64_w, i32_w]
  rfl
 refine pu_ 2 31 (bs 10 5) ?_ ?_ ?_ ?_ ?_
 rotate_left
 ·intro w'
  go_simp
  with_reducible rfl
 rotate_left
 ·simp only [aS, i64_w, i32_w]
  rfl
 refine pu_ 5 34 (bs 10 37) ?_ ?_ ?_ ?_ ?_
 rotate_left
 ·intro w'
  go_simp
  with_reducible rfl
 rotate_left
 ·simp only [aS, i64_w, i32_w]
  rfl
 refine take_ (i := 1) (N := some 30) (a' := ?_) (bs 10 39) rfl rfl (by kernel_rfl) (fun _ _ _ h => h) (yields_num (g := w.heap.size) (o := 0) (n := x) (by rfl) (.tmp 29) rfl rfl (fun w' hS => (HA.out.on hS).rx)) hHeld ?_ ?_
 rotate_left
 ·simp only [aS, i64_w, i32_w]
  rfl
 refine take_ (i := 3) (N := some 32) (a' := ?_) (bs 10 47) rfl rfl (by kernel_rfl) (fun _ _ _ h => h) (yields_num (g := w.heap.size) (o := 0) (n := x) (by rfl) (.tmp 31) rfl rfl (fun w' hS => (HA.out.on hS).rx)) hHeld ?_ ?_
 rotate_left
 ·simp only [aS, i64_w, i32_w]
  rfl
 refine take_ (i := 6) (N := some 35) (a' := ?_) (bs 10 111) rfl rfl (by kernel_rfl) (fun _ _ _ h => h) (yields_num (g := w.heap.size) (o := 0) (n := x) (by rfl) (.tmp 34) rfl rfl (fun w' hS => (HA.out.on hS).rx)) hHeld ?_ ?_
 rotate_left
 ·simp only [aS, i64_w, i32_w]
  rfl
 refine join_ (σ := Nat) 1 (bs 10 511) (fun s => [(3, .pointer (some ⟨s, 0, none⟩)), (33, numV t1), (36, numV t2)]) (fun s w' => Below u16.heap.size u16 w' ∧ NAt w' s 0 ∧ u16.heap.size ≤ s) ?_ ?_
 rotate_left
 ·intro hCont
  refine tw_ 4 8 (some 33) (some 3) (bs 10 127) (bs 10 367) rfl rfl (fun K hK => ?_) (fun K hK => ?_)
  ·skip
   refine gs_ Try.func35 #[numV x, numV x] rfl ?_
   with_reducible refine (K4.out _).mono ?_
   rintro e u17 ⟨rfl, hb_u17⟩
   refine ⟨_, rfl, ?_⟩
   have hq_u17 := bl_on hHeld hb_u17 hHeld.size
   refine hK.out _ _ (hq_u17) (fun hHeld => ?_)
   clear hK K
   refine nm_ (some 33) ?_
   refine tw_ 7 8 (some 36) (some 3) (bs 10 255) (bs 10 383) rfl rfl (fun K hK => ?_) (fun K hK => ?_)
   ·skip
    refine gs_ Try.func35 #[numV t1, numV x] rfl ?_
    with_reducible refine (K5.out _).mono ?_
    rintro e u18 ⟨rfl, hb_u18⟩
    refine ⟨_, rfl, ?_⟩
    have hq_u18 := bl_on hHeld hb_u18 hHeld.size
    refine hK.out _ _ (hq_u18) (fun hHeld => ?_)
    clear hK K
    refine nm_ (some 36) ?_
    refine on1_ 8 (some 3) (bs 10 511) rfl fun K hK => ?_
    refine value_ (w1 := ?_) (v := ?_) (by rfl) rfl ?_ ?_
    rotate_left 2
    ·go_simp
     constructor
     ·rfl
     ·rfl
    have hzg3 : NAt (World.alloc u18 (.cells (nw 0).toArray 24)) (u18.heap.size) 0 := by have h_ := Row.new u18 24 (nw 0); first | exact h_ | (simp only [alloc_sz] at h_; exact h_) | omega
    have hsg3 : u16.heap.size ≤ u18.heap.size := by have h_ := hHeld.size; first | exact h_ | (simp only [alloc_sz] at h_; exact h_) | omega
    refine hK.out _ _ (below_alloc hHeld _) (fun hHeld => ?_)
    clear hK K
    refine nm_ (some 3) ?_
    exact norm_ (by simp only [putAll, aS]) (hCont (u18.heap.size) _ ⟨hHeld, hzg3, hsg3⟩)
   ·skip
    refine value_ (w1 := ?_) (v := ?_) (by rfl) rfl ?_ ?_
    rotate_left 2
    ·go_simp
     constructor
     ·rfl
     ·rfl
    have hzg3 : NAt (World.alloc u17 (.cells (nw 0).toArray 24)) (u17.heap.size) 0 := by have h_ := Row.new u17 24 (nw 0); first | exact h_ | (simp only [alloc_sz] at h_; exact h_) | omega
    have hsg3 : u16.heap.size ≤ u17.heap.size := by have h_ := hHeld.size; first | exact h_ | (simp only [alloc_sz] at h_; exact h_) | omega
    refine hK.out _ _ (below_alloc hHeld _) (fun hHeld => ?_)
    clear hK K
    refine nm_ (some 3) ?_
    refine on1_ 7 (some 36) (bs 10 511) rfl fun K hK => ?_
    refine gs_ Try.func35 #[numV t1, numV x] rfl ?_
    with_reducible refine (K5.out _).mono ?_
    rintro e u18 ⟨rfl, hb_u18⟩
    refine ⟨_, rfl, ?_⟩
    have hq_u18 := bl_on hHeld hb_u18 hHeld.size
    replace hzg3 := hzg3.on hb_u18
    refine hK.out _ _ (hq_u18) (fun hHeld => ?_)
    clear hK K
    refine nm_ (some 36) ?_
    exact norm_ (by simp only [putAll, aS]) (hCont (u17.heap.size) _ ⟨hHeld, hzg3, hsg3⟩)
  ·skip
   refine value_ (w1 := ?_) (v := ?_) (by rfl) rfl ?_ ?_
   rotate_left 2
   ·go_simp
    constructor
    ·rfl
    ·rfl
   have hzg3 : NAt (World.alloc (World.drew u16) (.cells (nw 0).toArray 24)) (u16.heap.size) 0 := by have h_ := Row.new (World.drew u16) 24 (nw 0); first | exact h_ | (simp only [alloc_sz] at h_; exact h_) | omega
   have hsg3 : u16.heap.size ≤ u16.heap.size := by have h_ := hHeld.size; first | exact h_ | (simp only [alloc_sz] at h_; exact h_) | omega
   refine hK.out _ _ (below_alloc hHeld _) (fun hHeld => ?_)
   clear hK K
   refine nm_ (some 3) ?_
   refine on1_ 4 (some 33) (bs 10 383) rfl fun K hK => ?_
   refine gs_ Try.func35 #[numV x, numV x] rfl ?_
   with_reducible refine (K4.out _).mono ?_
   rintro e u17 ⟨rfl, hb_u17⟩
   refine ⟨_, rfl, ?_⟩
   have hq_u17 := bl_on hHeld hb_u17 hHeld.size
   replace hzg3 := hzg3.on hb_u17
   refine hK.out _ _ (hq_u17) (fun hHeld => ?_)
   clear hK K
   refine nm_ (some 33) ?_
   refine on1_ 7 (some 36) (bs 10 511) rfl fun K hK => ?_
   refine gs_ Try.func35 #[numV t1, numV x] rfl ?_
   with_reducible refine (K5.out _).mono ?_
   rintro e u18 ⟨rfl, hb_u18⟩
   refine ⟨_, rfl, ?_⟩
   have hq_u18 := bl_on hHeld hb_u18 hHeld.size
   replace hzg3 := hzg3.on hb_u18
   refine hK.out _ _ (hq_u18) (fun hHeld => ?_)
   clear hK K
   refine nm_ (some 36) ?_
   exact norm_ (by simp only [putAll, aS]) (hCont (u16.heap.size) _ ⟨hHeld, hzg3, hsg3⟩)
 rintro g3 v19 ⟨hHeld0, hzg3, hsg3⟩
 have hHeld : Below u16.heap.size u16 v19 := hHeld0
 clear hHeld0
 refine norm_ (a' := ?_) ?_ ?_
 rotate_left
 ·simp only [putAll, aS]
  rfl
 refine last_ (i := 9) (N := none) (bs 10 1023) rfl rfl (by kernel_rfl) (by decide) (fun K hK => ?_)
 refine skip_num (hzg3) (by rfl) rfl (.tmp 3) (.tmp 36) rfl rfl rfl ?_
 intro q20 hA_q20 hT_q20
 refine hK.out _ _ ?_
 clear hK K
 refine done_ (by kernel_rfl) ?_
 have HXg3 : Aside0 (w.heap.size + 1 ≤ g3) := Aside0.mk (Nat.le_trans HS.out hsg3)
 replace HA := Aside0.mk (HA.out.on hHeld)
 replace HB := Aside0.mk (bl_on HB.out hHeld HB.out.size)
 replace HS := Aside0.mk (Nat.le_trans HS.out hHeld.size)
 replace HA := Aside0.mk (HA.out.but hT_q20 (by have := HXg3.out; omega))
 have Hg3 := Aside0.mk hA_q20
 replace HB := Aside0.mk (bl_but HB.out hT_q20 HB.out.size (by have := HXg3.out; omega))
 replace HS := Aside0.mk (Nat.le_trans HS.out hT_q20.size)
 clear hA_q20 hT_q20 hzg3 hsg3 hHeld
 go_upto_region 7 with (first | ((with_reducible refine gate_dst (N := 39) rfl ?_); refine ld_num (HA.out.rx) rfl _ rfl rfl ?_) | ((with_reducible refine gate_dst (N := 40) rfl ?_); refine goesL_ (some 40) rfl rfl Try.func35 (by kernel_rfl) rfl #[numV 3, numV x] rfl (by (try simp only [List.map_toArray, List.map_cons, List.map_nil]); first | done | rfl) ?_; (with_reducible refine (K6.out _).mono ?_); rintro e u21 ⟨rfl, hb_⟩; refine ⟨_, rfl, ?_⟩; replace HA := Aside0.mk (HA.out.on hb_); replace Hg3 := Aside0.mk (Hg3.out.on hb_); replace HB := Aside0.mk (bl_on HB.out hb_ HB.out.size); replace HS := Aside0.mk (Nat.le_trans HS.out hb_.size); clear hb_) | ((with_reducible refine gate_dst (N := 4) rfl ?_); refine al_num rfl _ rfl rfl ?_; intro g4 u22 eg_ hn_ hb_; have HXg4 : Aside0 (w.heap.size + 1 ≤ g4 ∧ g3 < g4) := Aside0.mk (by rw [eg_]; exact ⟨HS.out, Hg3.out.size⟩); replace HA := Aside0.mk (HA.out.on hb_); replace Hg3 := Aside0.mk (Hg3.out.on hb_); replace HB := Aside0.mk (bl_on HB.out hb_ HB.out.size); replace HS := Aside0.mk (Nat.le_trans HS.out hb_.size); have Hg4 := Aside0.mk hn_; clear hn_ hb_ eg_) | ((with_reducible refine gate_st (y := .tmp 40) rfl ?_); (try simp only [aS]); refine st_num Hg4.out rfl _ _ rfl rfl rfl ?_; intro u23 hn_ hb_; replace HA := Aside0.mk (HA.out.but hb_ (by have := HXg3.out; have := HXg4.out; omega)); replace Hg3 := Aside0.mk (Hg3.out.but hb_ (by have := HXg3.out; have := HXg4.out; omega)); replace Hg4 := Aside0.mk hn_; replace HB := Aside0.mk (bl_but HB.out hb_ HB.out.size (by have := HXg3.out; have := HXg4.out; omega)); replace HS := Aside0.mk (Nat.le_trans HS.out hb_.size); clear hn_ hb_))
 refine start_ (n := 13) (S := fun w' => Below u23.heap.size u23 w') (ds := []) (bs 13 0) (by kernel_rfl) rfl rfl ((Below.refl _ _).drew) (fun hHeld => ?_)
 refine pu_ 0 41 (bs 13 1) ?_ ?_ ?_ ?_ ?_
 rotate_left
 ·intro w'
  go_simp
  with_reducible rfl
 rotate_left
 ·simp only [aS, i64_w, i32_w]
  rfl
 refine pu_ 2 43 (bs 13 5) ?_ ?_ ?_ ?_ ?_
 rotate_left
 ·intro w'
  go_simp
  with_reducible rfl
 rotate_left
 ·simp only [aS, i64_w, i32_w]
  rfl
 refine take_ (i := 1) (N := some 42) (a' := ?_) (bs 13 7) rfl rfl (by kernel_rfl) (fun _ _ _ h => h) (yields_num (g := w.heap.size) (o := 4) (n := y) (by rfl) (.tmp 41) rfl rfl (fun w' hS => (HA.out.on hS).ry)) hHeld ?_ ?_
 rotate_left
 ·simp only [aS, i64_w, i32_w]
  rfl
 refine take_ (i := 3) (N := some 44) (a' := ?_) (bs 13 15) rfl rfl (by kernel_rfl) (fun _ _ _ h => h) (yields_num (g := w.heap.size) (o := 4) (n := y) (by rfl) (.tmp 43) rfl rfl (fun w' hS => (HA.out.on hS).ry)) hHeld ?_ ?_
 rotate_left
 ·simp only [aS, i64_w, i32_w]
  rfl
 refine take_ (i := 5) (N := some 46) (a' := ?_) (bs 13 47) rfl rfl (by kernel_rfl) (fun _ _ _ h => h) (yields_num (g := g3) (o := 0) (n := t2) (by rfl) (.tmp 3) rfl rfl (fun w' hS => (Hg3.out.on hS).range)) hHeld ?_ ?_
 rotate_left
 ·simp only [aS, i64_w, i32_w]
  rfl
 refine take_ (i := 6) (N := some 47) (a' := ?_) (bs 13 111) rfl rfl (by kernel_rfl) (fun _ _ _ h => h) (yields_num (g := g4) (o := 0) (n := t3) (by rfl) (.tmp 4) rfl rfl (fun w' hS => (Hg4.out.on hS).range)) hHeld ?_ ?_
 rotate_left
 ·simp only [aS, i64_w, i32_w]
  rfl
 refine on1_ 4 (some 45) (bs 13 127) rfl fun K hK => ?_
 refine gs_ Try.func35 #[numV y, numV y] rfl ?_
 with_reducible refine (K7.out _).mono ?_
 rintro e u24 ⟨rfl, hb_u24⟩
 refine ⟨_, rfl, ?_⟩
 have hq_u24 := bl_on hHeld hb_u24 hHeld.size
 refine hK.out _ _ (hq_u24) (fun hHeld => ?_)
 clear hK K
 refine nm_ (some 45) ?_
 refine on1_ 7 (some 48) (bs 13 255) rfl fun K hK => ?_
 refine gs_ Try.func37 #[numV t2, numV t3] rfl ?_
 with_reducible refine (K8.out _).mono ?_
 rintro e u25 ⟨rfl, hb_u25⟩
 refine ⟨_, rfl, ?_⟩
 have hq_u25 := bl_on hHeld hb_u25 hHeld.size
 refine hK.out _ _ (hq_u25) (fun hHeld => ?_)
 clear hK K
 refine nm_ (some 48) ?_
 refine on1_ 8 (some 49) (bs 13 511) rfl fun K hK => ?_
 refine goes_ Try.func38 (by kernel_rfl) rfl #[] (by rfl) rfl rfl (by first | rfl | simp only [List.map_toArray, List.map_cons, List.map_nil]) ?_
 with_reducible refine (K9.out _).mono ?_
 rintro e u26 ⟨rfl, hb_u26⟩
 refine ⟨_, rfl, ?_⟩
 have hq_u26 := bl_on hHeld hb_u26 hHeld.size
 refine hK.out _ _ (hq_u26) (fun hHeld => ?_)
 clear hK K
 refine nm_ (some 49) ?_
 refine on1_ 9 (some 50) (bs 13 1023) rfl fun K hK => ?_
 refine goes_ Try.func15 (by kernel_rfl) rfl #[] (by rfl) rfl rfl (by first | rfl | simp only [List.map_toArray, List.map_cons, List.map_nil]) ?_
 with_reducible refine (K1.out _).mono ?_
 rintro e u27 ⟨rfl, hb_u27⟩
 refine ⟨_, rfl, ?_⟩
 have hq_u27 := bl_on hHeld hb_u27 hHeld.size
 refine hK.out _ _ (hq_u27) (fun hHeld => ?_)
 clear hK K
 refine nm_ (some 50) ?_
 refine on1_ 10 (some 51) (bs 13 2047) rfl fun K hK => ?_
 refine gs_ Try.func36 #[numV t5, numV cB, numV pP] rfl ?_
 with_reducible refine (K10.out _).mono ?_
 rintro e u28 ⟨rfl, hb_u28⟩
 refine ⟨_, rfl, ?_⟩
 have hq_u28 := bl_on hHeld hb_u28 hHeld.size
 refine hK.out _ _ (hq_u28) (fun hHeld => ?_)
 clear hK K
 refine nm_ (some 51) ?_
 refine pu_ 11 52 (bs 13 4095) ?_ ?_ ?_ ?_ ?_
 rotate_left
 ·intro w'
  go_simp
  with_reducible rfl
 rotate_left
 ·simp only [aS, i64_w, i32_w]
  rfl
 refine pu_ 12 2 (bs 13 8191) ?_ ?_ ?_ ?_ ?_
 rotate_left
 ·intro w'
  go_simp
  with_reducible rfl
 rotate_left
 ·simp only [aS, i64_w, i32_w]
  rfl
 refine done_ (by kernel_rfl) ?_
 replace HA := Aside0.mk (HA.out.on hHeld)
 replace Hg3 := Aside0.mk (Hg3.out.on hHeld)
 replace Hg4 := Aside0.mk (Hg4.out.on hHeld)
 replace HB := Aside0.mk (bl_on HB.out hHeld HB.out.size)
 replace HS := Aside0.mk (Nat.le_trans HS.out hHeld.size)
 clear hb_u24 hb_u25 hb_u26 hb_u27 hb_u28 hHeld
 go_wp2
 go_ret
 exact ⟨rfl, HB.out⟩
theorem rOn_calls {x y : Nat} (hx : x < N256) (hy : y < N256) (f : Bool) (w : World) :
  Calls Try.prog 13 #[ptV x y f] w fun e w' => e = .returned (.bool (onB x y f)) ∧ Below w.heap.size w w' := by
 cases f
 ·by_cases nx : x < pP
  ·by_cases ny : y < pP
   ·exact ron_ok nx ny w
   ·exact ron_y nx hy ny w
  ·exact ron_x hx nx w
 ·by_cases h0 : x = 0
  ·exact ron_far0 hx hy h0 w
  ·exact ron_far1 hx hy h0 w
end Go.Proofs.Ytkfjhndofbmhoaa
