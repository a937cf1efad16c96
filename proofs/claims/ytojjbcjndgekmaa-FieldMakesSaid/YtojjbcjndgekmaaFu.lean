/- FieldMakes: the walk. -/
import Derived.Test.YtojjbcjndgekmaaFt
import Derived.Test.YtojjbcjndgekmaaFn
namespace Go.Proofs.Ytojjbcjndgekmaa
open Go.RowKit Go.Proofs.Ytojjbcjndgekmaa.Arr Go.Proofs.YtojjbcjndgekmaaW.PrintWords Go.Proofs.YtojjbcjndgekmaaW.PrintLast Go.Proofs.YtojjbcjndgekmaaW.PrintMore
set_option linter.unusedVariables false
set_option linter.unusedSimpArgs false
attribute [local go_sem high] eqg_num eqg_num0 eqg_num1 eql_same eql_code
theorem XAt.range {w : World} {g x : Nat} (h : XAt w g x) : w.rangeAt g 0 (nx x) := Row.range h 0 8
set_option maxRecDepth 100000 in
set_option maxHeartbeats 8000000 in
theorem makes_walk (m x : Nat) (hm : m < N256) (hx : x < N512) (w : World) :
    Calls Try.prog 4 #[numV m, wideV x] w fun e w' => e = .returned (.bool true) ∧ Below w.heap.size w w' := by
  have HOD := Aside0.mk (fun u => rodd_calls m u hm)
  rw [numV_def m, wideV_def x]
  by_cases hok : m % 2 = 1 ∧ m ≠ 1
  · have h1 : 1 < m := by omega
    have HN := Aside0.mk (fun u => fnew_calls m u hm hok.1 h1)
    rw [decide_eq_true hok] at HOD
    generalize turnN m = t at *
    generalize N256 % m = o1 at *
    generalize N512 % m = s1 at *
    have HC1 := Aside0.mk (fun (gf : Nat) (u : World) (h : FAt u gf m t o1 s1) => fcut_calls x u h hm (by omega) hx)
    have HC2 := Aside0.mk (fun u => rcut_calls x m u hm h1 hx)
    generalize x % m = r at *
    clear hok h1 hm hx
    go_enter Try.func4, Try.ntmps4
    go_upto_region 1 with (fail)
    refine wp_at (w2 := (World.alloc (World.alloc w (.cells (nw m).toArray 24)) (.cells (nx x).toArray 40))) rfl ?_
    obtain ⟨x_0, e_0, h_0, b_0, s_0⟩ := new_num w m
    obtain ⟨x_1, e_1, h_1, b_1, s_1⟩ := new_wide x_0 x
    rw [e_0, e_1]
    rw [s_0] at h_1 s_1
    have HB : Aside0 (Below w.heap.size w x_1) := Aside0.mk (bl_both b_0 b_1)
    have HA : Aside0 (NAt x_1 (w.heap.size) m) := Aside0.mk (h_0.on b_1)
    have HX : Aside0 (XAt x_1 (w.heap.size + 1) x) := Aside0.mk h_1
    have HS : Aside0 (w.heap.size + 1 + 1 ≤ x_1.heap.size) := Aside0.mk (Nat.le_of_eq s_1.symm)
    clear e_0 h_0 b_0 s_0 e_1 h_1 b_1 s_1
    obtain ⟨w1, hw_⟩ : ∃ x, x = x_1 := ⟨_, rfl⟩
    subst hw_
    clear x_0
    go_upto_region 2 with (first | ((with_reducible refine gate_callee (f := 10) rfl ?_); refine goesL_ (some 9) rfl rfl Try.func10 (by kernel_rfl) rfl #[] rfl (by (try simp only [List.map_toArray, List.map_cons, List.map_nil]); first | done | rfl) ?_; (with_reducible refine (up2_calls _).mono ?_); rintro e u1 ⟨rfl, hb1⟩; replace HA := Aside0.mk (HA.out.on hb1); replace HX := Aside0.mk (HX.out.on hb1); replace HB := Aside0.mk (bl_on HB.out hb1 HB.out.size); replace HS := Aside0.mk (Nat.le_trans HS.out hb1.size); clear hb1; refine ⟨_, rfl, ?_⟩))
    go_upto_region 3 with (first | ((with_reducible refine gate_dst (N := 11) rfl ?_); refine ld_num (HA.out.range) rfl _ rfl rfl ?_) | ((with_reducible refine gate_callee (f := 11) rfl ?_); refine goesL_ (some 12) rfl rfl Try.func11 (by kernel_rfl) rfl #[numV m] rfl (by (try simp only [List.map_toArray, List.map_cons, List.map_nil]); first | done | rfl) ?_; (with_reducible refine (HN.out _).mono ?_); rintro e u2 ⟨gf, rfl, hge, hF, hb2⟩; have HF := Aside0.mk hF; clear hF hge; replace HA := Aside0.mk (HA.out.on hb2); replace HX := Aside0.mk (HX.out.on hb2); replace HB := Aside0.mk (bl_on HB.out hb2 HB.out.size); replace HS := Aside0.mk (Nat.le_trans HS.out hb2.size); clear hb2; refine ⟨_, rfl, ?_⟩))
    go_wp2_with (first | ((with_reducible refine gate_dst (N := 15) rfl ?_); refine ld_num (HA.out.range) rfl _ rfl rfl ?_) | ((with_reducible refine gate_callee (f := 12) rfl ?_); refine goesL_ (some 16) rfl rfl Try.func12 (by kernel_rfl) rfl #[numV m] rfl (by (try simp only [List.map_toArray, List.map_cons, List.map_nil]); first | done | rfl) ?_; (with_reducible refine (HOD.out _).mono ?_); rintro e u3 ⟨rfl, hb3⟩; replace HA := Aside0.mk (HA.out.on hb3); replace HX := Aside0.mk (HX.out.on hb3); replace HF := Aside0.mk (HF.out.on hb3); replace HB := Aside0.mk (bl_on HB.out hb3 HB.out.size); replace HS := Aside0.mk (Nat.le_trans HS.out hb3.size); clear hb3; refine ⟨_, rfl, ?_⟩))
    clear HOD HN
    refine start_ (n := 25) (S := fun w' => Below u3.heap.size u3 w') (ds := []) #[false, false, false, false, false, false, false, false, false, false, false, false, false, false, false, false, false, false, false, false, false, false, false, false, false] (by kernel_rfl) rfl rfl ((Below.refl _ _).drew) (fun hHeld => ?_)
    refine pure_ (i := 0) (N := some 29) (v := ?_) (a' := ?_) #[true, false, false, false, false, false, false, false, false, false, false, false, false, false, false, false, false, false, false, false, false, false, false, false, false] rfl rfl (by kernel_rfl) (fun _ _ _ h => h) (Or.inl ⟨by rfl, ?_⟩) ?_ ?_
    rotate_left
    · intro w'
      go_simp
      with_reducible rfl
    rotate_left
    · simp only [Act.put, List.setIfInBounds_toArray, List.set_cons_zero, List.set_cons_succ, i64_w, i32_w]
      rfl
    refine pure_ (i := 1) (N := some 30) (v := ?_) (a' := ?_) #[true, true, false, false, false, false, false, false, false, false, false, false, false, false, false, false, false, false, false, false, false, false, false, false, false] rfl rfl (by kernel_rfl) (fun _ _ _ h => h) (Or.inl ⟨by rfl, ?_⟩) ?_ ?_
    rotate_left
    · intro w'
      go_simp
      with_reducible rfl
    rotate_left
    · simp only [Act.put, List.setIfInBounds_toArray, List.set_cons_zero, List.set_cons_succ, i64_w, i32_w]
      rfl
    refine pure_ (i := 2) (N := some 31) (v := ?_) (a' := ?_) #[true, true, true, false, false, false, false, false, false, false, false, false, false, false, false, false, false, false, false, false, false, false, false, false, false] rfl rfl (by kernel_rfl) (fun _ _ _ h => h) (Or.inl ⟨by rfl, ?_⟩) ?_ ?_
    rotate_left
    · intro w'
      go_simp
      with_reducible rfl
    rotate_left
    · simp only [Act.put, List.setIfInBounds_toArray, List.set_cons_zero, List.set_cons_succ, i64_w, i32_w]
      rfl
    refine pure_ (i := 3) (N := some 32) (v := ?_) (a' := ?_) #[true, true, true, true, false, false, false, false, false, false, false, false, false, false, false, false, false, false, false, false, false, false, false, false, false] rfl rfl (by kernel_rfl) (fun _ _ _ h => h) (Or.inl ⟨by rfl, ?_⟩) ?_ ?_
    rotate_left
    · intro w'
      go_simp
      with_reducible rfl
    rotate_left
    · simp only [Act.put, List.setIfInBounds_toArray, List.set_cons_zero, List.set_cons_succ, i64_w, i32_w]
      rfl
    refine pure_ (i := 4) (N := some 33) (v := ?_) (a' := ?_) #[true, true, true, true, true, false, false, false, false, false, false, false, false, false, false, false, false, false, false, false, false, false, false, false, false] rfl rfl (by kernel_rfl) (fun _ _ _ h => h) (Or.inl ⟨by rfl, ?_⟩) ?_ ?_
    rotate_left
    · intro w'
      go_simp
      with_reducible rfl
    rotate_left
    · simp only [Act.put, List.setIfInBounds_toArray, List.set_cons_zero, List.set_cons_succ, i64_w, i32_w]
      rfl
    refine pure_ (i := 5) (N := some 34) (v := ?_) (a' := ?_) #[true, true, true, true, true, true, false, false, false, false, false, false, false, false, false, false, false, false, false, false, false, false, false, false, false] rfl rfl (by kernel_rfl) (fun _ _ _ h => h) (Or.inl ⟨by rfl, ?_⟩) ?_ ?_
    rotate_left
    · intro w'
      go_simp
      with_reducible rfl
    rotate_left
    · simp only [Act.put, List.setIfInBounds_toArray, List.set_cons_zero, List.set_cons_succ, i64_w, i32_w]
      rfl
    refine pure_ (i := 6) (N := some 35) (v := ?_) (a' := ?_) #[true, true, true, true, true, true, true, false, false, false, false, false, false, false, false, false, false, false, false, false, false, false, false, false, false] rfl rfl (by kernel_rfl) (fun _ _ _ h => h) (Or.inl ⟨by rfl, ?_⟩) ?_ ?_
    rotate_left
    · intro w'
      go_simp
      with_reducible rfl
    rotate_left
    · simp only [Act.put, List.setIfInBounds_toArray, List.set_cons_zero, List.set_cons_succ, i64_w, i32_w]
      rfl
    refine pure_ (i := 7) (N := some 36) (v := ?_) (a' := ?_) #[true, true, true, true, true, true, true, true, false, false, false, false, false, false, false, false, false, false, false, false, false, false, false, false, false] rfl rfl (by kernel_rfl) (fun _ _ _ h => h) (Or.inl ⟨by rfl, ?_⟩) ?_ ?_
    rotate_left
    · intro w'
      go_simp
      with_reducible rfl
    rotate_left
    · simp only [Act.put, List.setIfInBounds_toArray, List.set_cons_zero, List.set_cons_succ, i64_w, i32_w]
      rfl
    refine pure_ (i := 8) (N := some 37) (v := ?_) (a' := ?_) #[true, true, true, true, true, true, true, true, true, false, false, false, false, false, false, false, false, false, false, false, false, false, false, false, false] rfl rfl (by kernel_rfl) (fun _ _ _ h => h) (Or.inl ⟨by rfl, ?_⟩) ?_ ?_
    rotate_left
    · intro w'
      go_simp
      with_reducible rfl
    rotate_left
    · simp only [Act.put, List.setIfInBounds_toArray, List.set_cons_zero, List.set_cons_succ, i64_w, i32_w]
      rfl
    refine pure_ (i := 9) (N := some 38) (v := ?_) (a' := ?_) #[true, true, true, true, true, true, true, true, true, true, false, false, false, false, false, false, false, false, false, false, false, false, false, false, false] rfl rfl (by kernel_rfl) (fun _ _ _ h => h) (Or.inl ⟨by rfl, ?_⟩) ?_ ?_
    rotate_left
    · intro w'
      go_simp
      with_reducible rfl
    rotate_left
    · simp only [Act.put, List.setIfInBounds_toArray, List.set_cons_zero, List.set_cons_succ, i64_w, i32_w]
      rfl
    refine pure_ (i := 10) (N := some 39) (v := ?_) (a' := ?_) #[true, true, true, true, true, true, true, true, true, true, true, false, false, false, false, false, false, false, false, false, false, false, false, false, false] rfl rfl (by kernel_rfl) (fun _ _ _ h => h) (Or.inl ⟨by rfl, ?_⟩) ?_ ?_
    rotate_left
    · intro w'
      go_simp
      with_reducible rfl
    rotate_left
    · simp only [Act.put, List.setIfInBounds_toArray, List.set_cons_zero, List.set_cons_succ, i64_w, i32_w]
      rfl
    refine take_ (i := 12) (N := some 41) (a' := ?_) #[true, true, true, true, true, true, true, true, true, true, true, false, true, false, false, false, false, false, false, false, false, false, false, false, false] rfl rfl (by kernel_rfl) (fun _ _ _ h => h) (yields_num (g := w.heap.size) (o := 0) (n := m) (by rfl) (.tmp 2) rfl rfl (fun w' hS => (HA.out.below hS HA.out.size).range)) hHeld ?_ ?_
    rotate_left
    · simp only [Act.put, List.setIfInBounds_toArray, List.set_cons_zero, List.set_cons_succ, i64_w, i32_w]
      rfl
    refine one_ (i := 11) (N := some 40) #[true, true, true, true, true, true, true, true, true, true, true, true, true, false, false, false, false, false, false, false, false, false, false, false, false] rfl rfl (by kernel_rfl) (by decide) (fun K hK => ?_)
    refine goes_ Try.func16 (by kernel_rfl) rfl #[.pointer (some ⟨gf, 0, none⟩)] (by rfl) rfl rfl (by simp only [List.map_toArray, List.map_cons, List.map_nil]; rfl) ?_
    with_reducible refine (fmod_calls _ (HF.out.below hHeld HF.out.size)).mono ?_
    rintro e v1 ⟨rfl, hb1⟩
    refine ⟨_, rfl, ?_⟩
    refine hK.out _ _ (hHeld.trans (hb1.mono hHeld.size)) (fun hHeld => ?_)
    clear hK K
    refine norm_ (a' := ?_) ?_ ?_
    rotate_left
    · show Act.put _ (some 40) _ = _
      simp only [Act.put, List.setIfInBounds_toArray, List.set_cons_zero, List.set_cons_succ, i64_w, i32_w]
      rfl
    refine pure_ (i := 13) (N := some 42) (v := ?_) (a' := ?_) #[true, true, true, true, true, true, true, true, true, true, true, true, true, true, false, false, false, false, false, false, false, false, false, false, false] rfl rfl (by kernel_rfl) (fun _ _ _ h => h) (Or.inl ⟨by rfl, ?_⟩) ?_ ?_
    rotate_left
    · intro w'
      go_simp
      with_reducible rfl
    rotate_left
    · simp only [Act.put, List.setIfInBounds_toArray, List.set_cons_zero, List.set_cons_succ, i64_w, i32_w]
      rfl
    refine pure_ (i := 14) (N := some 43) (v := ?_) (a' := ?_) #[true, true, true, true, true, true, true, true, true, true, true, true, true, true, true, false, false, false, false, false, false, false, false, false, false] rfl rfl (by kernel_rfl) (fun _ _ _ h => h) (Or.inl ⟨by rfl, ?_⟩) ?_ ?_
    rotate_left
    · intro w'
      go_simp
      with_reducible rfl
    rotate_left
    · simp only [Act.put, List.setIfInBounds_toArray, List.set_cons_zero, List.set_cons_succ, i64_w, i32_w]
      rfl
    refine pure_ (i := 15) (N := some 44) (v := ?_) (a' := ?_) #[true, true, true, true, true, true, true, true, true, true, true, true, true, true, true, true, false, false, false, false, false, false, false, false, false] rfl rfl (by kernel_rfl) (fun _ _ _ h => h) (Or.inl ⟨by rfl, ?_⟩) ?_ ?_
    rotate_left
    · intro w'
      go_simp
      with_reducible rfl
    rotate_left
    · simp only [Act.put, List.setIfInBounds_toArray, List.set_cons_zero, List.set_cons_succ, i64_w, i32_w]
      rfl
    refine pure_ (i := 16) (N := some 45) (v := ?_) (a' := ?_) #[true, true, true, true, true, true, true, true, true, true, true, true, true, true, true, true, true, false, false, false, false, false, false, false, false] rfl rfl (by kernel_rfl) (fun _ _ _ h => h) (Or.inl ⟨by rfl, ?_⟩) ?_ ?_
    rotate_left
    · intro w'
      go_simp
      with_reducible rfl
    rotate_left
    · simp only [Act.put, List.setIfInBounds_toArray, List.set_cons_zero, List.set_cons_succ, i64_w, i32_w]
      rfl
    refine take_ (i := 17) (N := some 46) (a' := ?_) #[true, true, true, true, true, true, true, true, true, true, true, true, true, true, true, true, true, true, false, false, false, false, false, false, false] rfl rfl (by kernel_rfl) (fun _ _ _ h => h) (yieldsIf_load_mid (by rfl) 40 (.tmp 3) rfl (w.heap.size + 1) 0 rfl (nx x) _ (fun w' hS => (HX.out.below hS HX.out.size).range) rfl rfl (rfl)) hHeld ?_ ?_
    rotate_left
    · simp only [Act.put, List.setIfInBounds_toArray, List.set_cons_zero, List.set_cons_succ, i64_w, i32_w]
      rfl
    refine take_ (i := 19) (N := some 48) (a' := ?_) #[true, true, true, true, true, true, true, true, true, true, true, true, true, true, true, true, true, true, false, true, false, false, false, false, false] rfl rfl (by kernel_rfl) (fun _ _ _ h => h) (yieldsIf_load_mid (by rfl) 40 (.tmp 3) rfl (w.heap.size + 1) 0 rfl (nx x) _ (fun w' hS => (HX.out.below hS HX.out.size).range) rfl rfl (rfl)) hHeld ?_ ?_
    rotate_left
    · simp only [Act.put, List.setIfInBounds_toArray, List.set_cons_zero, List.set_cons_succ, i64_w, i32_w]
      rfl
    refine take_ (i := 20) (N := some 49) (a' := ?_) #[true, true, true, true, true, true, true, true, true, true, true, true, true, true, true, true, true, true, false, true, true, false, false, false, false] rfl rfl (by kernel_rfl) (fun _ _ _ h => h) (yields_num (g := w.heap.size) (o := 0) (n := m) (by rfl) (.tmp 2) rfl rfl (fun w' hS => (HA.out.below hS HA.out.size).range)) hHeld ?_ ?_
    rotate_left
    · simp only [Act.put, List.setIfInBounds_toArray, List.set_cons_zero, List.set_cons_succ, i64_w, i32_w]
      rfl
    refine one_ (i := 18) (N := some 47) #[true, true, true, true, true, true, true, true, true, true, true, true, true, true, true, true, true, true, true, true, true, false, false, false, false] rfl rfl (by kernel_rfl) (by decide) (fun K hK => ?_)
    refine goes_ Try.func17 (by kernel_rfl) rfl #[.pointer (some ⟨gf, 0, none⟩), wideV x] (by rfl) rfl rfl (by simp only [List.map_toArray, List.map_cons, List.map_nil]; rfl) ?_
    with_reducible refine (HC1.out _ _ (HF.out.below hHeld HF.out.size)).mono ?_
    rintro e v2 ⟨rfl, hb2⟩
    refine ⟨_, rfl, ?_⟩
    refine hK.out _ _ (hHeld.trans (hb2.mono hHeld.size)) (fun hHeld => ?_)
    clear hK K
    refine norm_ (a' := ?_) ?_ ?_
    rotate_left
    · show Act.put _ (some 47) _ = _
      simp only [Act.put, List.setIfInBounds_toArray, List.set_cons_zero, List.set_cons_succ, i64_w, i32_w]
      rfl
    refine one_ (i := 21) (N := some 50) #[true, true, true, true, true, true, true, true, true, true, true, true, true, true, true, true, true, true, true, true, true, true, false, false, false] rfl rfl (by kernel_rfl) (by decide) (fun K hK => ?_)
    refine goes_ Try.func18 (by kernel_rfl) rfl #[wideV x, numV m] (by rfl) rfl rfl (by simp only [List.map_toArray, List.map_cons, List.map_nil]; rfl) ?_
    with_reducible refine (HC2.out _).mono ?_
    rintro e v3 ⟨rfl, hb3⟩
    refine ⟨_, rfl, ?_⟩
    refine hK.out _ _ (hHeld.trans (hb3.mono hHeld.size)) (fun hHeld => ?_)
    clear hK K
    refine norm_ (a' := ?_) ?_ ?_
    rotate_left
    · show Act.put _ (some 50) _ = _
      simp only [Act.put, List.setIfInBounds_toArray, List.set_cons_zero, List.set_cons_succ, i64_w, i32_w]
      rfl
    refine pure_ (i := 22) (N := some 51) (v := ?_) (a' := ?_) #[true, true, true, true, true, true, true, true, true, true, true, true, true, true, true, true, true, true, true, true, true, true, true, false, false] rfl rfl (by kernel_rfl) (fun _ _ _ h => h) (Or.inl ⟨by rfl, ?_⟩) ?_ ?_
    rotate_left
    · intro w'
      go_simp
      with_reducible rfl
    rotate_left
    · simp only [Act.put, List.setIfInBounds_toArray, List.set_cons_zero, List.set_cons_succ, i64_w, i32_w]
      rfl
    refine pure_ (i := 23) (N := some 52) (v := ?_) (a' := ?_) #[true, true, true, true, true, true, true, true, true, true, true, true, true, true, true, true, true, true, true, true, true, true, true, true, false] rfl rfl (by kernel_rfl) (fun _ _ _ h => h) (Or.inl ⟨by rfl, ?_⟩) ?_ ?_
    rotate_left
    · intro w'
      go_simp
      with_reducible rfl
    rotate_left
    · simp only [Act.put, List.setIfInBounds_toArray, List.set_cons_zero, List.set_cons_succ, i64_w, i32_w]
      rfl
    refine pure_ (i := 24) (N := some 4) (v := ?_) (a' := ?_) #[true, true, true, true, true, true, true, true, true, true, true, true, true, true, true, true, true, true, true, true, true, true, true, true, true] rfl rfl (by kernel_rfl) (fun _ _ _ h => h) (Or.inl ⟨by rfl, ?_⟩) ?_ ?_
    rotate_left
    · intro w'
      go_simp
      with_reducible rfl
    rotate_left
    · simp only [Act.put, List.setIfInBounds_toArray, List.set_cons_zero, List.set_cons_succ, i64_w, i32_w]
      rfl
    refine done_ (by kernel_rfl) ?_
    go_wp2
    go_ret
    exact ⟨rfl, bl_on HB.out hHeld HB.out.size⟩
  · have HN := Aside0.mk (fun u => fnew_none m u hm hok)
    rw [decide_eq_false hok] at HOD
    clear hok hm hx
    go_enter Try.func4, Try.ntmps4
    go_upto_region 1 with (fail)
    refine wp_at (w2 := (World.alloc (World.alloc w (.cells (nw m).toArray 24)) (.cells (nx x).toArray 40))) rfl ?_
    obtain ⟨x_0, e_0, h_0, b_0, s_0⟩ := new_num w m
    obtain ⟨x_1, e_1, h_1, b_1, s_1⟩ := new_wide x_0 x
    rw [e_0, e_1]
    rw [s_0] at h_1 s_1
    have HB : Aside0 (Below w.heap.size w x_1) := Aside0.mk (bl_both b_0 b_1)
    have HA : Aside0 (NAt x_1 (w.heap.size) m) := Aside0.mk (h_0.on b_1)
    have HX : Aside0 (XAt x_1 (w.heap.size + 1) x) := Aside0.mk h_1
    have HS : Aside0 (w.heap.size + 1 + 1 ≤ x_1.heap.size) := Aside0.mk (Nat.le_of_eq s_1.symm)
    clear e_0 h_0 b_0 s_0 e_1 h_1 b_1 s_1
    obtain ⟨w1, hw_⟩ : ∃ x, x = x_1 := ⟨_, rfl⟩
    subst hw_
    clear x_0
    go_upto_region 2 with (first | ((with_reducible refine gate_callee (f := 10) rfl ?_); refine goesL_ (some 9) rfl rfl Try.func10 (by kernel_rfl) rfl #[] rfl (by (try simp only [List.map_toArray, List.map_cons, List.map_nil]); first | done | rfl) ?_; (with_reducible refine (up2_calls _).mono ?_); rintro e u1 ⟨rfl, hb1⟩; replace HA := Aside0.mk (HA.out.on hb1); replace HX := Aside0.mk (HX.out.on hb1); replace HB := Aside0.mk (bl_on HB.out hb1 HB.out.size); replace HS := Aside0.mk (Nat.le_trans HS.out hb1.size); clear hb1; refine ⟨_, rfl, ?_⟩))
    go_upto_region 3 with (first | ((with_reducible refine gate_dst (N := 11) rfl ?_); refine ld_num (HA.out.range) rfl _ rfl rfl ?_) | ((with_reducible refine gate_callee (f := 11) rfl ?_); refine goesL_ (some 12) rfl rfl Try.func11 (by kernel_rfl) rfl #[numV m] rfl (by (try simp only [List.map_toArray, List.map_cons, List.map_nil]); first | done | rfl) ?_; (with_reducible refine (HN.out _).mono ?_); rintro e u2 ⟨rfl, hb2⟩; replace HA := Aside0.mk (HA.out.on hb2); replace HX := Aside0.mk (HX.out.on hb2); replace HB := Aside0.mk (bl_on HB.out hb2 HB.out.size); replace HS := Aside0.mk (Nat.le_trans HS.out hb2.size); clear hb2; refine ⟨_, rfl, ?_⟩))
    go_wp2_with (first | ((with_reducible refine gate_dst (N := 15) rfl ?_); refine ld_num (HA.out.range) rfl _ rfl rfl ?_) | ((with_reducible refine gate_callee (f := 12) rfl ?_); refine goesL_ (some 16) rfl rfl Try.func12 (by kernel_rfl) rfl #[numV m] rfl (by (try simp only [List.map_toArray, List.map_cons, List.map_nil]); first | done | rfl) ?_; (with_reducible refine (HOD.out _).mono ?_); rintro e u3 ⟨rfl, hb3⟩; replace HA := Aside0.mk (HA.out.on hb3); replace HX := Aside0.mk (HX.out.on hb3); replace HB := Aside0.mk (bl_on HB.out hb3 HB.out.size); replace HS := Aside0.mk (Nat.le_trans HS.out hb3.size); clear hb3; refine ⟨_, rfl, ?_⟩))
    go_ret
    exact ⟨rfl, HB.out⟩
end Go.Proofs.Ytojjbcjndgekmaa
