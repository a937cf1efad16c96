/- The field's less: a number, and 2^256 more if over, below twice the modulus. -/
import Derived.Test.YtojjbcjndgekmaaFg
import Derived.Test.YtojjbcjndgekmaaLa
import Derived.Test.YtojjbcjndgekmaaLb
namespace Go.Proofs.Ytojjbcjndgekmaa
open Go.RowKit Go.Proofs.Ytojjbcjndgekmaa.Arr Go.Proofs.YtojjbcjndgekmaaW.PrintWords Go.Proofs.YtojjbcjndgekmaaW.PrintLast Go.Proofs.YtojjbcjndgekmaaW.PrintMore
set_option linter.unusedVariables false
set_option linter.unusedSimpArgs false
/-- what less answers -/
def lessN (m a : Nat) (D : Bool) : Nat := if D = true ∨ m ≤ a then (a + N256 - m) % N256 else a
theorem cmp_ge {a b : Nat} (h : b ≤ a) : (0 : Int) ≤ cmpI a b := by unfold cmpI; rw [if_neg (by omega)]; split <;> omega
theorem cmp_lt {a b : Nat} (h : ¬ b ≤ a) : cmpI a b < (0 : Int) := by unfold cmpI; rw [if_pos (by omega)]; omega
set_option maxRecDepth 100000 in
set_option maxHeartbeats 8000000 in
/-- (*field.Field).less -/
theorem fless_calls {gf m t o s : Nat} (a : Nat) (D : Bool) (w : World) (hF : FAt w gf m t o s) (ha : a < N256) (hm : m < N256) :
    Calls Try.prog 37 #[.pointer (some ⟨gf, 0, none⟩), numV a, .bool D] w fun e w' => e = .returned (numV (lessN m a D)) ∧ Below w.heap.size w w' := by
  obtain ⟨r, hr⟩ : ∃ r, r = lessN m a D := ⟨_, rfl⟩
  obtain ⟨d, hd⟩ : ∃ d, d = (a + N256 - m) % N256 := ⟨_, rfl⟩
  have HG : Aside0 (gf < w.heap.size) := Aside0.mk hF.size
  have HC := Aside0.mk (fun u => cmp_calls (IsNum.mk ha) (IsNum.mk hm) u)
  have HD := Aside0.mk (fun u => sub_calls (IsNum.mk ha) (IsNum.mk hm) u)
  rw [← hd] at HD
  rw [← hr, numV_def a]
  go_enter Try.func37, Try.ntmps37
  go_upto_region 1 with (fail)
  refine wp_at (w2 := (World.alloc (World.alloc w (.cells (nw a).toArray 24)) (.cells (nw 0).toArray 24))) rfl ?_
  obtain ⟨x_0, e_0, h_0, b_0, s_0⟩ := new_num w a
  obtain ⟨x_1, e_1, h_1, b_1, s_1⟩ := new_num x_0 0
  rw [e_0, e_1]
  rw [s_0] at h_1 s_1
  have HB : Aside0 (Below w.heap.size w x_1) := Aside0.mk (bl_both b_0 b_1)
  have HA : Aside0 (NAt x_1 (w.heap.size) a) := Aside0.mk (h_0.on b_1)
  have HO : Aside0 (NAt x_1 (w.heap.size + 1) 0) := Aside0.mk h_1
  have HS : Aside0 (w.heap.size + 1 + 1 ≤ x_1.heap.size) := Aside0.mk (Nat.le_of_eq s_1.symm)
  have HF := Aside0.mk (hF.on HB.out)
  clear e_0 h_0 b_0 s_0 e_1 h_1 b_1 s_1 hF
  obtain ⟨w1, hw_⟩ : ∃ x, x = x_1 := ⟨_, rfl⟩
  subst hw_
  clear x_0
  by_cases hcase : D = true ∨ m ≤ a
  · have HR : Aside0 (r = d) := Aside0.mk (by rw [hr, hd]; unfold lessN; rw [if_pos hcase])
    clear hd hr
    cases D with
    | true =>
      clear hcase
      refine start_ (n := 10) (S := fun w' => Below w1.heap.size w1 w') (ds := []) #[false, false, false, false, false, false, false, false, false, false] (by kernel_rfl) rfl rfl ((Below.refl _ _).drew) (fun hHeld => ?_)
      refine pure_ (i := 0) (N := some 7) (v := ?_) (a' := ?_) #[true, false, false, false, false, false, false, false, false, false] rfl rfl (by kernel_rfl) (fun _ _ _ h => h) (Or.inl ⟨by rfl, ?_⟩) ?_ ?_
      rotate_left
      · intro w'
        go_simp
        with_reducible rfl
      rotate_left
      · simp only [Act.put, List.setIfInBounds_toArray, List.set_cons_zero, List.set_cons_succ, i64_w, i32_w]
        rfl
      refine pure_ (i := 1) (N := some 8) (v := ?_) (a' := ?_) #[true, true, false, false, false, false, false, false, false, false] rfl rfl (by kernel_rfl) (fun _ _ _ h => h) (Or.inl ⟨by rfl, ?_⟩) ?_ ?_
      rotate_left
      · intro w'
        go_simp
        with_reducible rfl
      rotate_left
      · simp only [Act.put, List.setIfInBounds_toArray, List.set_cons_zero, List.set_cons_succ, i64_w, i32_w]
        rfl
      refine pure_ (i := 2) (N := some 9) (v := undef) (a' := ?_) #[true, true, true, false, false, false, false, false, false, false] rfl rfl (by kernel_rfl) (fun _ _ _ h => h) (Or.inr ⟨by rfl, rfl⟩) ?_ ?_
      rotate_left
      · simp only [Act.put, List.setIfInBounds_toArray, List.set_cons_zero, List.set_cons_succ, i64_w, i32_w]
        rfl
      refine pure_ (i := 3) (N := some 10) (v := undef) (a' := ?_) #[true, true, true, true, false, false, false, false, false, false] rfl rfl (by kernel_rfl) (fun _ _ _ h => h) (Or.inr ⟨by rfl, rfl⟩) ?_ ?_
      rotate_left
      · simp only [Act.put, List.setIfInBounds_toArray, List.set_cons_zero, List.set_cons_succ, i64_w, i32_w]
        rfl
      refine pure_ (i := 4) (N := some 11) (v := undef) (a' := ?_) #[true, true, true, true, true, false, false, false, false, false] rfl rfl (by kernel_rfl) (fun _ _ _ h => h) (Or.inr ⟨by rfl, rfl⟩) ?_ ?_
      rotate_left
      · simp only [Act.put, List.setIfInBounds_toArray, List.set_cons_zero, List.set_cons_succ, i64_w, i32_w]
        rfl
      refine pure_ (i := 5) (N := some 12) (v := undef) (a' := ?_) #[true, true, true, true, true, true, false, false, false, false] rfl rfl (by kernel_rfl) (fun _ _ _ h => h) (Or.inr ⟨by rfl, rfl⟩) ?_ ?_
      rotate_left
      · simp only [Act.put, List.setIfInBounds_toArray, List.set_cons_zero, List.set_cons_succ, i64_w, i32_w]
        rfl
      refine pure_ (i := 6) (N := some 13) (v := undef) (a' := ?_) #[true, true, true, true, true, true, true, false, false, false] rfl rfl (by kernel_rfl) (fun _ _ _ h => h) (Or.inr ⟨by rfl, rfl⟩) ?_ ?_
      rotate_left
      · simp only [Act.put, List.setIfInBounds_toArray, List.set_cons_zero, List.set_cons_succ, i64_w, i32_w]
        rfl
      refine pure_ (i := 7) (N := some 14) (v := undef) (a' := ?_) #[true, true, true, true, true, true, true, true, false, false] rfl rfl (by kernel_rfl) (fun _ _ _ h => h) (Or.inr ⟨by rfl, rfl⟩) ?_ ?_
      rotate_left
      · simp only [Act.put, List.setIfInBounds_toArray, List.set_cons_zero, List.set_cons_succ, i64_w, i32_w]
        rfl
      refine pure_ (i := 8) (N := some 15) (v := undef) (a' := ?_) #[true, true, true, true, true, true, true, true, true, false] rfl rfl (by kernel_rfl) (fun _ _ _ h => h) (Or.inr ⟨by rfl, rfl⟩) ?_ ?_
      rotate_left
      · simp only [Act.put, List.setIfInBounds_toArray, List.set_cons_zero, List.set_cons_succ, i64_w, i32_w]
        rfl
      refine pure_ (i := 9) (N := some 16) (v := ?_) (a' := ?_) #[true, true, true, true, true, true, true, true, true, true] rfl rfl (by kernel_rfl) (fun _ _ _ h => h) (Or.inl ⟨by rfl, ?_⟩) ?_ ?_
      rotate_left
      · intro w'
        go_simp
        with_reducible rfl
      rotate_left
      · simp only [Act.put, List.setIfInBounds_toArray, List.set_cons_zero, List.set_cons_succ, i64_w, i32_w]
        rfl
      refine done_ (by kernel_rfl) ?_
      replace HA := Aside0.mk (HA.out.on hHeld)
      replace HO := Aside0.mk (HO.out.on hHeld)
      replace HF := Aside0.mk (HF.out.on hHeld)
      replace HB := Aside0.mk (bl_on HB.out hHeld HB.out.size)
      replace HS := Aside0.mk (Nat.le_trans HS.out hHeld.size)
      clear hHeld
      generalize w1.drew = w2 at *
      go_wp2
      refine start_ (n := 10) (S := fun w' => Below w2.heap.size w2 w') (ds := [9]) #[false, false, false, false, false, false, false, false, false, false] (by kernel_rfl) rfl rfl ((Below.refl _ _).drew) (fun hHeld => ?_)
      refine pure_ (i := 1) (N := some 19) (v := ?_) (a' := ?_) #[false, true, false, false, false, false, false, false, false, false] rfl rfl (by kernel_rfl) (fun _ _ _ h => h) (Or.inl ⟨by rfl, ?_⟩) ?_ ?_
      rotate_left
      · intro w'
        go_simp
        with_reducible rfl
      rotate_left
      · simp only [Act.put, List.setIfInBounds_toArray, List.set_cons_zero, List.set_cons_succ, i64_w, i32_w]
        rfl
      refine pure_ (i := 2) (N := some 20) (v := ?_) (a' := ?_) #[false, true, true, false, false, false, false, false, false, false] rfl rfl (by kernel_rfl) (fun _ _ _ h => h) (Or.inl ⟨by rfl, ?_⟩) ?_ ?_
      rotate_left
      · intro w'
        go_simp
        with_reducible rfl
      rotate_left
      · simp only [Act.put, List.setIfInBounds_toArray, List.set_cons_zero, List.set_cons_succ, i64_w, i32_w]
        rfl
      refine pure_ (i := 3) (N := some 21) (v := ?_) (a' := ?_) #[false, true, true, true, false, false, false, false, false, false] rfl rfl (by kernel_rfl) (fun _ _ _ h => h) (Or.inl ⟨by rfl, ?_⟩) ?_ ?_
      rotate_left
      · intro w'
        go_simp
        with_reducible rfl
      rotate_left
      · simp only [Act.put, List.setIfInBounds_toArray, List.set_cons_zero, List.set_cons_succ, i64_w, i32_w]
        rfl
      refine take_ (i := 0) (N := some 18) (a' := ?_) #[true, true, true, true, false, false, false, false, false, false] rfl rfl (by kernel_rfl) (fun _ _ _ h => h) (yields_num (g := w.heap.size) (o := 0) (n := a) (by rfl) (.tmp 4) rfl rfl (fun w' hS => (HA.out.below hS HA.out.size).range)) hHeld ?_ ?_
      rotate_left
      · simp only [Act.put, List.setIfInBounds_toArray, List.set_cons_zero, List.set_cons_succ, i64_w, i32_w]
        rfl
      refine take_ (i := 4) (N := some 22) (a' := ?_) #[true, true, true, true, true, false, false, false, false, false] rfl rfl (by kernel_rfl) (fun _ _ _ h => h) (yields_num (g := gf) (o := 0) (n := m) (by rfl) (.tmp 21) rfl rfl (fun w' hS => (HF.out.below hS HF.out.size).range0)) hHeld ?_ ?_
      rotate_left
      · simp only [Act.put, List.setIfInBounds_toArray, List.set_cons_zero, List.set_cons_succ, i64_w, i32_w]
        rfl
      refine one_ (i := 5) (N := some 23) #[true, true, true, true, true, true, false, false, false, false] rfl rfl (by kernel_rfl) (by decide) (fun K hK => ?_)
      refine goes_ Try.func32 (by kernel_rfl) rfl #[numV a, numV m] (by rfl) rfl rfl (by simp only [List.map_toArray, List.map_cons, List.map_nil]; rfl) ?_
      with_reducible refine (HD.out _).mono ?_
      rintro e u2 ⟨rfl, hb2⟩
      refine ⟨_, rfl, ?_⟩
      refine hK.out _ _ (hHeld.trans (hb2.mono hHeld.size)) (fun hHeld => ?_)
      clear hK K
      refine norm_ (a' := ?_) ?_ ?_
      rotate_left
      · show Act.put _ (some 23) _ = _
        simp only [Act.put, List.setIfInBounds_toArray, List.set_cons_zero, List.set_cons_succ, i64_w, i32_w]
        rfl
      refine pure_ (i := 6) (N := some 17) (v := ?_) (a' := ?_) #[true, true, true, true, true, true, true, false, false, false] rfl rfl (by kernel_rfl) (fun _ _ _ h => h) (Or.inl ⟨by rfl, ?_⟩) ?_ ?_
      rotate_left
      · intro w'
        go_simp
        with_reducible rfl
      rotate_left
      · simp only [Act.put, List.setIfInBounds_toArray, List.set_cons_zero, List.set_cons_succ, i64_w, i32_w]
        rfl
      refine pure_ (i := 7) (N := some 24) (v := ?_) (a' := ?_) #[true, true, true, true, true, true, true, true, false, false] rfl rfl (by kernel_rfl) (fun _ _ _ h => h) (Or.inl ⟨by rfl, ?_⟩) ?_ ?_
      rotate_left
      · intro w'
        go_simp
        with_reducible rfl
      rotate_left
      · simp only [Act.put, List.setIfInBounds_toArray, List.set_cons_zero, List.set_cons_succ, i64_w, i32_w]
        rfl
      refine pure_ (i := 8) (N := some 25) (v := ?_) (a' := ?_) #[true, true, true, true, true, true, true, true, true, false] rfl rfl (by kernel_rfl) (fun _ _ _ h => h) (Or.inl ⟨by rfl, ?_⟩) ?_ ?_
      rotate_left
      · intro w'
        go_simp
        with_reducible rfl
      rotate_left
      · simp only [Act.put, List.setIfInBounds_toArray, List.set_cons_zero, List.set_cons_succ, i64_w, i32_w]
        rfl
      refine last_ (i := 9) (N := none) #[true, true, true, true, true, true, true, true, true, true] rfl rfl (by kernel_rfl) (by decide) (fun K hK => ?_)
      refine skip_num (HA.out.below hHeld HA.out.size) (by rfl) rfl (.tmp 4) (.tmp 24) rfl rfl rfl ?_
      intro u3 hA3 hT3
      refine hK.out _ _ ?_
      clear hK K
      refine done_ (by kernel_rfl) ?_
      replace HA := Aside0.mk (HA.out.on hHeld)
      replace HO := Aside0.mk (HO.out.on hHeld)
      replace HF := Aside0.mk (HF.out.on hHeld)
      replace HB := Aside0.mk (bl_on HB.out hHeld HB.out.size)
      replace HS := Aside0.mk (Nat.le_trans HS.out hHeld.size)
      replace HO := Aside0.mk (HO.out.but hT3 (by omega))
      replace HF := Aside0.mk (HF.out.but hT3 (by have := HG.out; omega))
      replace HA := Aside0.mk hA3
      replace HB := Aside0.mk (bl_but HB.out hT3 HB.out.size (by omega))
      replace HS := Aside0.mk (Nat.le_trans HS.out hT3.size)
      clear hA3 hT3
      go_wp2_with (first | ((with_reducible refine gate_dst (N := 26) rfl ?_); refine ld_num (HA.out.range) rfl _ rfl rfl ?_) | ((with_reducible refine gate_st (y := .tmp 26) rfl ?_); refine st_num (HO.out) rfl _ _ rfl rfl rfl ?_; intro u4 hA4 hT4))
      replace HA := Aside0.mk (HA.out.but hT4 (by omega))
      replace HF := Aside0.mk (HF.out.but hT4 (by have := HG.out; omega))
      replace HO := Aside0.mk hA4
      replace HB := Aside0.mk (bl_but HB.out hT4 HB.out.size (by omega))
      replace HS := Aside0.mk (Nat.le_trans HS.out hT4.size)
      clear hA4 hT4
      exact bodyPost_ret (v := numV d) (results_nat rfl rfl HO.out) rfl ⟨by rw [HR.out], HB.out⟩
    | false =>
      have hge := cmp_ge (hcase.resolve_left (by decide))
      generalize cmpI a m = c at *
      clear hcase
      refine start_ (n := 10) (S := fun w' => Below w1.heap.size w1 w') (ds := []) #[false, false, false, false, false, false, false, false, false, false] (by kernel_rfl) rfl rfl ((Below.refl _ _).drew) (fun hHeld => ?_)
      refine pure_ (i := 0) (N := some 7) (v := ?_) (a' := ?_) #[true, false, false, false, false, false, false, false, false, false] rfl rfl (by kernel_rfl) (fun _ _ _ h => h) (Or.inl ⟨by rfl, ?_⟩) ?_ ?_
      rotate_left
      · intro w'
        go_simp
        with_reducible rfl
      rotate_left
      · simp only [Act.put, List.setIfInBounds_toArray, List.set_cons_zero, List.set_cons_succ, i64_w, i32_w]
        rfl
      refine pure_ (i := 1) (N := some 8) (v := ?_) (a' := ?_) #[true, true, false, false, false, false, false, false, false, false] rfl rfl (by kernel_rfl) (fun _ _ _ h => h) (Or.inl ⟨by rfl, ?_⟩) ?_ ?_
      rotate_left
      · intro w'
        go_simp
        with_reducible rfl
      rotate_left
      · simp only [Act.put, List.setIfInBounds_toArray, List.set_cons_zero, List.set_cons_succ, i64_w, i32_w]
        rfl
      refine pure_ (i := 3) (N := some 10) (v := ?_) (a' := ?_) #[true, true, false, true, false, false, false, false, false, false] rfl rfl (by kernel_rfl) (fun _ _ _ h => h) (Or.inl ⟨by rfl, ?_⟩) ?_ ?_
      rotate_left
      · intro w'
        go_simp
        with_reducible rfl
      rotate_left
      · simp only [Act.put, List.setIfInBounds_toArray, List.set_cons_zero, List.set_cons_succ, i64_w, i32_w]
        rfl
      refine pure_ (i := 4) (N := some 11) (v := ?_) (a' := ?_) #[true, true, false, true, true, false, false, false, false, false] rfl rfl (by kernel_rfl) (fun _ _ _ h => h) (Or.inl ⟨by rfl, ?_⟩) ?_ ?_
      rotate_left
      · intro w'
        go_simp
        with_reducible rfl
      rotate_left
      · simp only [Act.put, List.setIfInBounds_toArray, List.set_cons_zero, List.set_cons_succ, i64_w, i32_w]
        rfl
      refine pure_ (i := 5) (N := some 12) (v := ?_) (a' := ?_) #[true, true, false, true, true, true, false, false, false, false] rfl rfl (by kernel_rfl) (fun _ _ _ h => h) (Or.inl ⟨by rfl, ?_⟩) ?_ ?_
      rotate_left
      · intro w'
        go_simp
        with_reducible rfl
      rotate_left
      · simp only [Act.put, List.setIfInBounds_toArray, List.set_cons_zero, List.set_cons_succ, i64_w, i32_w]
        rfl
      refine take_ (i := 2) (N := some 9) (a' := ?_) #[true, true, true, true, true, true, false, false, false, false] rfl rfl (by kernel_rfl) (fun _ _ _ h => h) (yields_num (g := w.heap.size) (o := 0) (n := a) (by rfl) (.tmp 4) rfl rfl (fun w' hS => (HA.out.below hS HA.out.size).range)) hHeld ?_ ?_
      rotate_left
      · simp only [Act.put, List.setIfInBounds_toArray, List.set_cons_zero, List.set_cons_succ, i64_w, i32_w]
        rfl
      refine take_ (i := 6) (N := some 13) (a' := ?_) #[true, true, true, true, true, true, true, false, false, false] rfl rfl (by kernel_rfl) (fun _ _ _ h => h) (yields_num (g := gf) (o := 0) (n := m) (by rfl) (.tmp 12) rfl rfl (fun w' hS => (HF.out.below hS HF.out.size).range0)) hHeld ?_ ?_
      rotate_left
      · simp only [Act.put, List.setIfInBounds_toArray, List.set_cons_zero, List.set_cons_succ, i64_w, i32_w]
        rfl
      refine one_ (i := 7) (N := some 14) #[true, true, true, true, true, true, true, true, false, false] rfl rfl (by kernel_rfl) (by decide) (fun K hK => ?_)
      refine goes_ Try.func31 (by kernel_rfl) rfl #[numV a, numV m] (by rfl) rfl rfl (by simp only [List.map_toArray, List.map_cons, List.map_nil]; rfl) ?_
      with_reducible refine (HC.out _).mono ?_
      rintro e u1 ⟨rfl, hb1⟩
      refine ⟨_, rfl, ?_⟩
      refine hK.out _ _ (hHeld.trans (hb1.mono hHeld.size)) (fun hHeld => ?_)
      clear hK K
      refine norm_ (a' := ?_) ?_ ?_
      rotate_left
      · show Act.put _ (some 14) _ = _
        simp only [Act.put, List.setIfInBounds_toArray, List.set_cons_zero, List.set_cons_succ, i64_w, i32_w]
        rfl
      refine pure_ (i := 8) (N := some 15) (v := ?_) (a' := ?_) #[true, true, true, true, true, true, true, true, true, false] rfl rfl (by kernel_rfl) (fun _ _ _ h => h) (Or.inl ⟨by rfl, ?_⟩) ?_ ?_
      rotate_left
      · intro w'
        go_simp
        with_reducible rfl
      rotate_left
      · simp only [Act.put, List.setIfInBounds_toArray, List.set_cons_zero, List.set_cons_succ, i64_w, i32_w]
        rfl
      refine pure_ (i := 9) (N := some 16) (v := ?_) (a' := ?_) #[true, true, true, true, true, true, true, true, true, true] rfl rfl (by kernel_rfl) (fun _ _ _ h => h) (Or.inl ⟨by rfl, ?_⟩) ?_ ?_
      rotate_left
      · intro w'
        go_simp
        with_reducible rfl
      rotate_left
      · simp only [Act.put, List.setIfInBounds_toArray, List.set_cons_zero, List.set_cons_succ, i64_w, i32_w]
        rfl
      refine done_ (by kernel_rfl) ?_
      replace HA := Aside0.mk (HA.out.on hHeld)
      replace HO := Aside0.mk (HO.out.on hHeld)
      replace HF := Aside0.mk (HF.out.on hHeld)
      replace HB := Aside0.mk (bl_on HB.out hHeld HB.out.size)
      replace HS := Aside0.mk (Nat.le_trans HS.out hHeld.size)
      clear hHeld hb1 hge
      go_wp2
      refine start_ (n := 10) (S := fun w' => Below u1.heap.size u1 w') (ds := [9]) #[false, false, false, false, false, false, false, false, false, false] (by kernel_rfl) rfl rfl ((Below.refl _ _).drew) (fun hHeld => ?_)
      refine pure_ (i := 1) (N := some 19) (v := ?_) (a' := ?_) #[false, true, false, false, false, false, false, false, false, false] rfl rfl (by kernel_rfl) (fun _ _ _ h => h) (Or.inl ⟨by rfl, ?_⟩) ?_ ?_
      rotate_left
      · intro w'
        go_simp
        with_reducible rfl
      rotate_left
      · simp only [Act.put, List.setIfInBounds_toArray, List.set_cons_zero, List.set_cons_succ, i64_w, i32_w]
        rfl
      refine pure_ (i := 2) (N := some 20) (v := ?_) (a' := ?_) #[false, true, true, false, false, false, false, false, false, false] rfl rfl (by kernel_rfl) (fun _ _ _ h => h) (Or.inl ⟨by rfl, ?_⟩) ?_ ?_
      rotate_left
      · intro w'
        go_simp
        with_reducible rfl
      rotate_left
      · simp only [Act.put, List.setIfInBounds_toArray, List.set_cons_zero, List.set_cons_succ, i64_w, i32_w]
        rfl
      refine pure_ (i := 3) (N := some 21) (v := ?_) (a' := ?_) #[false, true, true, true, false, false, false, false, false, false] rfl rfl (by kernel_rfl) (fun _ _ _ h => h) (Or.inl ⟨by rfl, ?_⟩) ?_ ?_
      rotate_left
      · intro w'
        go_simp
        with_reducible rfl
      rotate_left
      · simp only [Act.put, List.setIfInBounds_toArray, List.set_cons_zero, List.set_cons_succ, i64_w, i32_w]
        rfl
      refine take_ (i := 0) (N := some 18) (a' := ?_) #[true, true, true, true, false, false, false, false, false, false] rfl rfl (by kernel_rfl) (fun _ _ _ h => h) (yields_num (g := w.heap.size) (o := 0) (n := a) (by rfl) (.tmp 4) rfl rfl (fun w' hS => (HA.out.below hS HA.out.size).range)) hHeld ?_ ?_
      rotate_left
      · simp only [Act.put, List.setIfInBounds_toArray, List.set_cons_zero, List.set_cons_succ, i64_w, i32_w]
        rfl
      refine take_ (i := 4) (N := some 22) (a' := ?_) #[true, true, true, true, true, false, false, false, false, false] rfl rfl (by kernel_rfl) (fun _ _ _ h => h) (yields_num (g := gf) (o := 0) (n := m) (by rfl) (.tmp 21) rfl rfl (fun w' hS => (HF.out.below hS HF.out.size).range0)) hHeld ?_ ?_
      rotate_left
      · simp only [Act.put, List.setIfInBounds_toArray, List.set_cons_zero, List.set_cons_succ, i64_w, i32_w]
        rfl
      refine one_ (i := 5) (N := some 23) #[true, true, true, true, true, true, false, false, false, false] rfl rfl (by kernel_rfl) (by decide) (fun K hK => ?_)
      refine goes_ Try.func32 (by kernel_rfl) rfl #[numV a, numV m] (by rfl) rfl rfl (by simp only [List.map_toArray, List.map_cons, List.map_nil]; rfl) ?_
      with_reducible refine (HD.out _).mono ?_
      rintro e u2 ⟨rfl, hb2⟩
      refine ⟨_, rfl, ?_⟩
      refine hK.out _ _ (hHeld.trans (hb2.mono hHeld.size)) (fun hHeld => ?_)
      clear hK K
      refine norm_ (a' := ?_) ?_ ?_
      rotate_left
      · show Act.put _ (some 23) _ = _
        simp only [Act.put, List.setIfInBounds_toArray, List.set_cons_zero, List.set_cons_succ, i64_w, i32_w]
        rfl
      refine pure_ (i := 6) (N := some 17) (v := ?_) (a' := ?_) #[true, true, true, true, true, true, true, false, false, false] rfl rfl (by kernel_rfl) (fun _ _ _ h => h) (Or.inl ⟨by rfl, ?_⟩) ?_ ?_
      rotate_left
      · intro w'
        go_simp
        with_reducible rfl
      rotate_left
      · simp only [Act.put, List.setIfInBounds_toArray, List.set_cons_zero, List.set_cons_succ, i64_w, i32_w]
        rfl
      refine pure_ (i := 7) (N := some 24) (v := ?_) (a' := ?_) #[true, true, true, true, true, true, true, true, false, false] rfl rfl (by kernel_rfl) (fun _ _ _ h => h) (Or.inl ⟨by rfl, ?_⟩) ?_ ?_
      rotate_left
      · intro w'
        go_simp
        with_reducible rfl
      rotate_left
      · simp only [Act.put, List.setIfInBounds_toArray, List.set_cons_zero, List.set_cons_succ, i64_w, i32_w]
        rfl
      refine pure_ (i := 8) (N := some 25) (v := ?_) (a' := ?_) #[true, true, true, true, true, true, true, true, true, false] rfl rfl (by kernel_rfl) (fun _ _ _ h => h) (Or.inl ⟨by rfl, ?_⟩) ?_ ?_
      rotate_left
      · intro w'
        go_simp
        with_reducible rfl
      rotate_left
      · simp only [Act.put, List.setIfInBounds_toArray, List.set_cons_zero, List.set_cons_succ, i64_w, i32_w]
        rfl
      refine last_ (i := 9) (N := none) #[true, true, true, true, true, true, true, true, true, true] rfl rfl (by kernel_rfl) (by decide) (fun K hK => ?_)
      refine skip_num (HA.out.below hHeld HA.out.size) (by rfl) rfl (.tmp 4) (.tmp 24) rfl rfl rfl ?_
      intro u3 hA3 hT3
      refine hK.out _ _ ?_
      clear hK K
      refine done_ (by kernel_rfl) ?_
      replace HA := Aside0.mk (HA.out.on hHeld)
      replace HO := Aside0.mk (HO.out.on hHeld)
      replace HF := Aside0.mk (HF.out.on hHeld)
      replace HB := Aside0.mk (bl_on HB.out hHeld HB.out.size)
      replace HS := Aside0.mk (Nat.le_trans HS.out hHeld.size)
      replace HO := Aside0.mk (HO.out.but hT3 (by omega))
      replace HF := Aside0.mk (HF.out.but hT3 (by have := HG.out; omega))
      replace HA := Aside0.mk hA3
      replace HB := Aside0.mk (bl_but HB.out hT3 HB.out.size (by omega))
      replace HS := Aside0.mk (Nat.le_trans HS.out hT3.size)
      clear hA3 hT3
      go_wp2_with (first | ((with_reducible refine gate_dst (N := 26) rfl ?_); refine ld_num (HA.out.range) rfl _ rfl rfl ?_) | ((with_reducible refine gate_st (y := .tmp 26) rfl ?_); refine st_num (HO.out) rfl _ _ rfl rfl rfl ?_; intro u4 hA4 hT4))
      replace HA := Aside0.mk (HA.out.but hT4 (by omega))
      replace HF := Aside0.mk (HF.out.but hT4 (by have := HG.out; omega))
      replace HO := Aside0.mk hA4
      replace HB := Aside0.mk (bl_but HB.out hT4 HB.out.size (by omega))
      replace HS := Aside0.mk (Nat.le_trans HS.out hT4.size)
      clear hA4 hT4
      exact bodyPost_ret (v := numV d) (results_nat rfl rfl HO.out) rfl ⟨by rw [HR.out], HB.out⟩
  · have HR : Aside0 (r = a) := Aside0.mk (by rw [hr]; unfold lessN; rw [if_neg hcase])
    obtain rfl : D = false := by cases D; · rfl
                                 · exact absurd (Or.inl rfl) hcase
    have hlt := cmp_lt (fun h => hcase (Or.inr h))
    generalize cmpI a m = c at *
    have hlt : decide ((0 : Int) ≤ c) = false := decide_eq_false (Int.not_le.2 hlt)
    clear hcase hd hr
    refine start_ (n := 10) (S := fun w' => Below w1.heap.size w1 w') (ds := []) #[false, false, false, false, false, false, false, false, false, false] (by kernel_rfl) rfl rfl ((Below.refl _ _).drew) (fun hHeld => ?_)
    refine pure_ (i := 0) (N := some 7) (v := ?_) (a' := ?_) #[true, false, false, false, false, false, false, false, false, false] rfl rfl (by kernel_rfl) (fun _ _ _ h => h) (Or.inl ⟨by rfl, ?_⟩) ?_ ?_
    rotate_left
    · intro w'
      go_simp
      with_reducible rfl
    rotate_left
    · simp only [Act.put, List.setIfInBounds_toArray, List.set_cons_zero, List.set_cons_succ, i64_w, i32_w]
      rfl
    refine pure_ (i := 1) (N := some 8) (v := ?_) (a' := ?_) #[true, true, false, false, false, false, false, false, false, false] rfl rfl (by kernel_rfl) (fun _ _ _ h => h) (Or.inl ⟨by rfl, ?_⟩) ?_ ?_
    rotate_left
    · intro w'
      go_simp
      with_reducible rfl
    rotate_left
    · simp only [Act.put, List.setIfInBounds_toArray, List.set_cons_zero, List.set_cons_succ, i64_w, i32_w]
      rfl
    refine pure_ (i := 3) (N := some 10) (v := ?_) (a' := ?_) #[true, true, false, true, false, false, false, false, false, false] rfl rfl (by kernel_rfl) (fun _ _ _ h => h) (Or.inl ⟨by rfl, ?_⟩) ?_ ?_
    rotate_left
    · intro w'
      go_simp
      with_reducible rfl
    rotate_left
    · simp only [Act.put, List.setIfInBounds_toArray, List.set_cons_zero, List.set_cons_succ, i64_w, i32_w]
      rfl
    refine pure_ (i := 4) (N := some 11) (v := ?_) (a' := ?_) #[true, true, false, true, true, false, false, false, false, false] rfl rfl (by kernel_rfl) (fun _ _ _ h => h) (Or.inl ⟨by rfl, ?_⟩) ?_ ?_
    rotate_left
    · intro w'
      go_simp
      with_reducible rfl
    rotate_left
    · simp only [Act.put, List.setIfInBounds_toArray, List.set_cons_zero, List.set_cons_succ, i64_w, i32_w]
      rfl
    refine pure_ (i := 5) (N := some 12) (v := ?_) (a' := ?_) #[true, true, false, true, true, true, false, false, false, false] rfl rfl (by kernel_rfl) (fun _ _ _ h => h) (Or.inl ⟨by rfl, ?_⟩) ?_ ?_
    rotate_left
    · intro w'
      go_simp
      with_reducible rfl
    rotate_left
    · simp only [Act.put, List.setIfInBounds_toArray, List.set_cons_zero, List.set_cons_succ, i64_w, i32_w]
      rfl
    refine take_ (i := 2) (N := some 9) (a' := ?_) #[true, true, true, true, true, true, false, false, false, false] rfl rfl (by kernel_rfl) (fun _ _ _ h => h) (yields_num (g := w.heap.size) (o := 0) (n := a) (by rfl) (.tmp 4) rfl rfl (fun w' hS => (HA.out.below hS HA.out.size).range)) hHeld ?_ ?_
    rotate_left
    · simp only [Act.put, List.setIfInBounds_toArray, List.set_cons_zero, List.set_cons_succ, i64_w, i32_w]
      rfl
    refine take_ (i := 6) (N := some 13) (a' := ?_) #[true, true, true, true, true, true, true, false, false, false] rfl rfl (by kernel_rfl) (fun _ _ _ h => h) (yields_num (g := gf) (o := 0) (n := m) (by rfl) (.tmp 12) rfl rfl (fun w' hS => (HF.out.below hS HF.out.size).range0)) hHeld ?_ ?_
    rotate_left
    · simp only [Act.put, List.setIfInBounds_toArray, List.set_cons_zero, List.set_cons_succ, i64_w, i32_w]
      rfl
    refine one_ (i := 7) (N := some 14) #[true, true, true, true, true, true, true, true, false, false] rfl rfl (by kernel_rfl) (by decide) (fun K hK => ?_)
    refine goes_ Try.func31 (by kernel_rfl) rfl #[numV a, numV m] (by rfl) rfl rfl (by simp only [List.map_toArray, List.map_cons, List.map_nil]; rfl) ?_
    with_reducible refine (HC.out _).mono ?_
    rintro e u1 ⟨rfl, hb1⟩
    refine ⟨_, rfl, ?_⟩
    refine hK.out _ _ (hHeld.trans (hb1.mono hHeld.size)) (fun hHeld => ?_)
    clear hK K
    refine norm_ (a' := ?_) ?_ ?_
    rotate_left
    · show Act.put _ (some 14) _ = _
      simp only [Act.put, List.setIfInBounds_toArray, List.set_cons_zero, List.set_cons_succ, i64_w, i32_w]
      rfl
    refine pure_ (i := 8) (N := some 15) (v := ?_) (a' := ?_) #[true, true, true, true, true, true, true, true, true, false] rfl rfl (by kernel_rfl) (fun _ _ _ h => h) (Or.inl ⟨by rfl, ?_⟩) ?_ ?_
    rotate_left
    · intro w'
      go_simp
      with_reducible rfl
    rotate_left
    · simp only [Act.put, List.setIfInBounds_toArray, List.set_cons_zero, List.set_cons_succ, i64_w, i32_w]
      rfl
    refine pure_ (i := 9) (N := some 16) (v := ?_) (a' := ?_) #[true, true, true, true, true, true, true, true, true, true] rfl rfl (by kernel_rfl) (fun _ _ _ h => h) (Or.inl ⟨by rfl, ?_⟩) ?_ ?_
    rotate_left
    · intro w'
      go_simp
      with_reducible rfl
    rotate_left
    · simp only [Act.put, List.setIfInBounds_toArray, List.set_cons_zero, List.set_cons_succ, i64_w, i32_w]
      rfl
    refine done_ (by kernel_rfl) ?_
    replace HA := Aside0.mk (HA.out.on hHeld)
    replace HO := Aside0.mk (HO.out.on hHeld)
    replace HF := Aside0.mk (HF.out.on hHeld)
    replace HB := Aside0.mk (bl_on HB.out hHeld HB.out.size)
    replace HS := Aside0.mk (Nat.le_trans HS.out hHeld.size)
    clear hHeld hb1 hlt
    go_wp2_with (first | ((with_reducible refine gate_dst (N := 26) rfl ?_); refine ld_num (HA.out.range) rfl _ rfl rfl ?_) | ((with_reducible refine gate_st (y := .tmp 26) rfl ?_); refine st_num (HO.out) rfl _ _ rfl rfl rfl ?_; intro u4 hA4 hT4))
    replace HA := Aside0.mk (HA.out.but hT4 (by omega))
    replace HF := Aside0.mk (HF.out.but hT4 (by have := HG.out; omega))
    replace HO := Aside0.mk hA4
    replace HB := Aside0.mk (bl_but HB.out hT4 HB.out.size (by omega))
    replace HS := Aside0.mk (Nat.le_trans HS.out hT4.size)
    clear hA4 hT4
    exact bodyPost_ret (v := numV a) (results_nat rfl rfl HO.out) rfl ⟨by rw [HR.out], HB.out⟩
end Go.Proofs.Ytojjbcjndgekmaa
