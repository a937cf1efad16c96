/- What the proof of PointMultiples is made of, part 10. -/
import Derived.Test.YtkfjhndofbmhoaaZPointMultiples8
import Derived.Test.YtkfjhndofbmhoaaZPointMultiples9
import Derived.Test.YtkfjhndofbmhoaaZPointMultiplesh
namespace Go.Proofs.Ytkfjhndofbmhoaa
open Go.RowKit Go.Proofs.Ytkfjhndofbmhoaa.Arr Go.Proofs.YtkfjhndofbmhoaaW.PrintWords Go.Proofs.YtkfjhndofbmhoaaW.PrintLast Go.Proofs.YtkfjhndofbmhoaaW.PrintMore
set_option linter.unusedVariables false
set_option linter.unusedSimpArgs false
/-- what less answers -/
def lessN (m a : Nat) (D : Bool) : Nat := if D = true ∨ m ≤ a then (a + N256 - m) % N256 else a
theorem cmp_ge {a b : Nat} (h : b ≤ a) : (0 : Int) ≤ cmpI a b := by unfold cmpI; rw [if_neg (by omega)]; split <;> omega
theorem cmp_lt {a b : Nat} (h : ¬ b ≤ a) : cmpI a b < (0 : Int) := by unfold cmpI; rw [if_pos (by omega)]; omega
set_option maxRecDepth 100000 in
set_option maxHeartbeats 8000000 in
/-- (*field.Field).less -/
theorem fless_calls {gf m t o s : Nat} (a : Nat) (D : Bool) (w : World) (hF : FAt w gf m t o s) (ha : a < N256) (hm : m < N256) :
    Calls Try.prog 72 #[.pointer (some ⟨gf, 0, none⟩), numV a, .bool D] w fun e w' => e = .returned (numV (lessN m a D)) ∧ Below w.heap.size w w' := by
  obtain ⟨r, hr⟩ : ∃ r, r = lessN m a D := ⟨_, rfl⟩
  obtain ⟨d, hd⟩ : ∃ d, d = (a + N256 - m) % N256 := ⟨_, rfl⟩
  have HG : Aside0 (gf < w.heap.size) := Aside0.mk hF.size
  have HC := Aside0.mk (fun u => cmp_calls (IsNum.mk ha) (IsNum.mk hm) u)
  have HD := Aside0.mk (fun u => sub_calls (IsNum.mk ha) (IsNum.mk hm) u)
  rw [← hd] at HD
  rw [← hr, numV_def a]
  go_enter Try.func72, Try.ntmps72
  go_upto_region 1 with (fail)
  refine wp_at (w2 := (World.alloc (World.alloc w (.cells (nw a).toArray 24)) (.cells (nw 0).toArray 24))) rfl ?_
  obtain ⟨x_0, e_0, h_0, b_0, s_0⟩ := new_num w a
  obtain ⟨x_1, e_1, h_1, b_1, s_1⟩ := new_num x_0 0
  rw [e_0, e_1]
  rw [s_0] at h_1 s_1
  have HB : Aside0 (Below w.heap.size w x_1) := Aside0.mk (bl_both b_0 b_1)
  have HA : Aside0 (NAt x_1 (w.heap.size) a) := Aside0.mk (h_0.on b_1)
  have HO : Aside0 (NAt x_1 (w.heap.size + 1) 0) := Aside0.mk h_1
  have HS : Aside0 (w.heap.size + 1 + 1 ≤ x_1.heap.size) := Aside0.mk (Nat.le_of_eq s_1.symm)
  have HF := Aside0.mk (hF.on HB.out)
  clear e_0 h_0 b_0 s_0 e_1 h_1 b_1 s_1 hF
  obtain ⟨w1, hw_⟩ : ∃ x, x = x_1 := ⟨_, rfl⟩
  subst hw_
  clear x_0
  by_cases hcase : D = true ∨ m ≤ a
  · have HR : Aside0 (r = d) := Aside0.mk (by rw [hr, hd]; unfold lessN; rw [if_pos hcase])
    clear hd hr
    cases D with
    | true =>
      clear hcase
      refine start_ (n := 10) (S := fun w' => Below w1.heap.size w1 w') (ds := []) (bs 10 0) (by kernel_rfl) rfl rfl ((Below.refl _ _).drew) (fun hHeld => ?_)
      refine pu_ 0 7 (bs 10 1) ?_ ?_ ?_ ?_ ?_
      rotate_left
      · intro w'
        go_simp
        with_reducible rfl
      rotate_left
      · simp only [aS, i64_w, i32_w]
        rfl
      refine pu_ 1 8 (bs 10 3) ?_ ?_ ?_ ?_ ?_
      rotate_left
      · intro w'
        go_simp
        with_reducible rfl
      rotate_left
      · simp only [aS, i64_w, i32_w]
        rfl
      refine pv_ 2 9 (bs 10 7) ?_ ?_ ?_
      rotate_left
      · simp only [aS, i64_w, i32_w]
        rfl
      refine pv_ 3 10 (bs 10 15) ?_ ?_ ?_
      rotate_left
      · simp only [aS, i64_w, i32_w]
        rfl
      refine pv_ 4 11 (bs 10 31) ?_ ?_ ?_
      rotate_left
      · simp only [aS, i64_w, i32_w]
        rfl
      refine pv_ 5 12 (bs 10 63) ?_ ?_ ?_
      rotate_left
      · simp only [aS, i64_w, i32_w]
        rfl
      refine pv_ 6 13 (bs 10 127) ?_ ?_ ?_
      rotate_left
      · simp only [aS, i64_w, i32_w]
        rfl
      refine pv_ 7 14 (bs 10 255) ?_ ?_ ?_
      rotate_left
      · simp only [aS, i64_w, i32_w]
        rfl
      refine pv_ 8 15 (bs 10 511) ?_ ?_ ?_
      rotate_left
      · simp only [aS, i64_w, i32_w]
        rfl
      refine pu_ 9 16 (bs 10 1023) ?_ ?_ ?_ ?_ ?_
      rotate_left
      · intro w'
        go_simp
        with_reducible rfl
      rotate_left
      · simp only [aS, i64_w, i32_w]
        rfl
      refine done_ (by kernel_rfl) ?_
      replace HA := Aside0.mk (HA.out.on hHeld)
      replace HO := Aside0.mk (HO.out.on hHeld)
      replace HF := Aside0.mk (HF.out.on hHeld)
      replace HB := Aside0.mk (bl_on HB.out hHeld HB.out.size)
      replace HS := Aside0.mk (Nat.le_trans HS.out hHeld.size)
      clear hHeld
      generalize w1.drew = w2 at *
      go_wp2
      refine start_ (n := 10) (S := fun w' => Below w2.heap.size w2 w') (ds := [9]) (bs 10 0) (by kernel_rfl) rfl rfl ((Below.refl _ _).drew) (fun hHeld => ?_)
      refine pu_ 1 19 (bs 10 2) ?_ ?_ ?_ ?_ ?_
      rotate_left
      · intro w'
        go_simp
        with_reducible rfl
      rotate_left
      · simp only [aS, i64_w, i32_w]
        rfl
      refine pu_ 2 20 (bs 10 6) ?_ ?_ ?_ ?_ ?_
      rotate_left
      · intro w'
        go_simp
        with_reducible rfl
      rotate_left
      · simp only [aS, i64_w, i32_w]
        rfl
      refine pu_ 3 21 (bs 10 14) ?_ ?_ ?_ ?_ ?_
      rotate_left
      · intro w'
        go_simp
        with_reducible rfl
      rotate_left
      · simp only [aS, i64_w, i32_w]
        rfl
      refine take_ (i := 0) (N := some 18) (a' := ?_) (bs 10 15) rfl rfl (by kernel_rfl) (fun _ _ _ h => h) (yields_num (g := w.heap.size) (o := 0) (n := a) (by rfl) (.tmp 4) rfl rfl (fun w' hS => (HA.out.below hS HA.out.size).range)) hHeld ?_ ?_
      rotate_left
      · simp only [aS, i64_w, i32_w]
        rfl
      refine take_ (i := 4) (N := some 22) (a' := ?_) (bs 10 31) rfl rfl (by kernel_rfl) (fun _ _ _ h => h) (yields_num (g := gf) (o := 0) (n := m) (by rfl) (.tmp 21) rfl rfl (fun w' hS => (HF.out.below hS HF.out.size).range0)) hHeld ?_ ?_
      rotate_left
      · simp only [aS, i64_w, i32_w]
        rfl
      refine on1_ 5 (some 23) (bs 10 63) rfl fun K hK => ?_
      refine gs_ Try.func73 #[numV a, numV m] rfl ?_
      with_reducible refine (HD.out _).mono ?_
      rintro e u2 ⟨rfl, hb2⟩
      refine ⟨_, rfl, ?_⟩
      refine hK.out _ _ (hHeld.trans (hb2.mono hHeld.size)) (fun hHeld => ?_)
      clear hK K
      refine nm_ (some 23) ?_
      refine pu_ 6 17 (bs 10 127) ?_ ?_ ?_ ?_ ?_
      rotate_left
      · intro w'
        go_simp
        with_reducible rfl
      rotate_left
      · simp only [aS, i64_w, i32_w]
        rfl
      refine pu_ 7 24 (bs 10 255) ?_ ?_ ?_ ?_ ?_
      rotate_left
      · intro w'
        go_simp
        with_reducible rfl
      rotate_left
      · simp only [aS, i64_w, i32_w]
        rfl
      refine pu_ 8 25 (bs 10 511) ?_ ?_ ?_ ?_ ?_
      rotate_left
      · intro w'
        go_simp
        with_reducible rfl
      rotate_left
      · simp only [aS, i64_w, i32_w]
        rfl
      refine last_ (i := 9) (N := none) (bs 10 1023) rfl rfl (by kernel_rfl) (by decide) (fun K hK => ?_)
      refine skip_num (HA.out.below hHeld HA.out.size) (by rfl) rfl (.tmp 4) (.tmp 24) rfl rfl rfl ?_
      intro u3 hA3 hT3
      refine hK.out _ _ ?_
      clear hK K
      refine done_ (by kernel_rfl) ?_
      replace HA := Aside0.mk (HA.out.on hHeld)
      replace HO := Aside0.mk (HO.out.on hHeld)
      replace HF := Aside0.mk (HF.out.on hHeld)
      replace HB := Aside0.mk (bl_on HB.out hHeld HB.out.size)
      replace HS := Aside0.mk (Nat.le_trans HS.out hHeld.size)
      replace HO := Aside0.mk (HO.out.but hT3 (by omega))
      replace HF := Aside0.mk (HF.out.but hT3 (by have := HG.out; omega))
      replace HA := Aside0.mk hA3
      replace HB := Aside0.mk (bl_but HB.out hT3 HB.out.size (by omega))
      replace HS := Aside0.mk (Nat.le_trans HS.out hT3.size)
      clear hA3 hT3
      go_wp2_with (first | ((with_reducible refine gate_dst (N := 26) rfl ?_); refine ld_num (HA.out.range) rfl _ rfl rfl ?_) | ((with_reducible refine gate_st (y := .tmp 26) rfl ?_); refine st_num (HO.out) rfl _ _ rfl rfl rfl ?_; intro u4 hA4 hT4))
      replace HA := Aside0.mk (HA.out.but hT4 (by omega))
      replace HF := Aside0.mk (HF.out.but hT4 (by have := HG.out; omega))
      replace HO := Aside0.mk hA4
      replace HB := Aside0.mk (bl_but HB.out hT4 HB.out.size (by omega))
      replace HS := Aside0.mk (Nat.le_trans HS.out hT4.size)
      clear hA4 hT4
      exact bodyPost_ret (v := numV d) (results_nat rfl rfl HO.out) rfl ⟨by rw [HR.out], HB.out⟩
    | false =>
      have hge := cmp_ge (hcase.resolve_left (by decide))
      generalize cmpI a m = c at *
      clear hcase
      refine start_ (n := 10) (S := fun w' => Below w1.heap.size w1 w') (ds := []) (bs 10 0) (by kernel_rfl) rfl rfl ((Below.refl _ _).drew) (fun hHeld => ?_)
      refine pu_ 0 7 (bs 10 1) ?_ ?_ ?_ ?_ ?_
      rotate_left
      · intro w'
        go_simp
        with_reducible rfl
      rotate_left
      · simp only [aS, i64_w, i32_w]
        rfl
      refine pu_ 1 8 (bs 10 3) ?_ ?_ ?_ ?_ ?_
      rotate_left
      · intro w'
        go_simp
        with_reducible rfl
      rotate_left
      · simp only [aS, i64_w, i32_w]
        rfl
      refine pu_ 3 10 (bs 10 11) ?_ ?_ ?_ ?_ ?_
      rotate_left
      · intro w'
        go_simp
        with_reducible rfl
      rotate_left
      · simp only [aS, i64_w, i32_w]
        rfl
      refine pu_ 4 11 (bs 10 27) ?_ ?_ ?_ ?_ ?_
      rotate_left
      · intro w'
        go_simp
        with_reducible rfl
      rotate_left
      · simp only [aS, i64_w, i32_w]
        rfl
      refine pu_ 5 12 (bs 10 59) ?_ ?_ ?_ ?_ ?_
      rotate_left
      · intro w'
        go_simp
        with_reducible rfl
      rotate_left
      · simp only [aS, i64_w, i32_w]
        rfl
      refine take_ (i := 2) (N := some 9) (a' := ?_) (bs 10 63) rfl rfl (by kernel_rfl) (fun _ _ _ h => h) (yields_num (g := w.heap.size) (o := 0) (n := a) (by rfl) (.tmp 4) rfl rfl (fun w' hS => (HA.out.below hS HA.out.size).range)) hHeld ?_ ?_
      rotate_left
      · simp only [aS, i64_w, i32_w]
        rfl
      refine take_ (i := 6) (N := some 13) (a' := ?_) (bs 10 127) rfl rfl (by kernel_rfl) (fun _ _ _ h => h) (yields_num (g := gf) (o := 0) (n := m) (by rfl) (.tmp 12) rfl rfl (fun w' hS => (HF.out.below hS HF.out.size).range0)) hHeld ?_ ?_
      rotate_left
      · simp only [aS, i64_w, i32_w]
        rfl
      refine on1_ 7 (some 14) (bs 10 255) rfl fun K hK => ?_
      refine gs_ Try.func54 #[numV a, numV m] rfl ?_
      with_reducible refine (HC.out _).mono ?_
      rintro e u1 ⟨rfl, hb1⟩
      refine ⟨_, rfl, ?_⟩
      refine hK.out _ _ (hHeld.trans (hb1.mono hHeld.size)) (fun hHeld => ?_)
      clear hK K
      refine nm_ (some 14) ?_
      refine pu_ 8 15 (bs 10 511) ?_ ?_ ?_ ?_ ?_
      rotate_left
      · intro w'
        go_simp
        with_reducible rfl
      rotate_left
      · simp only [aS, i64_w, i32_w]
        rfl
      refine pu_ 9 16 (bs 10 1023) ?_ ?_ ?_ ?_ ?_
      rotate_left
      · intro w'
        go_simp
        with_reducible rfl
      rotate_left
      · simp only [aS, i64_w, i32_w]
        rfl
      refine done_ (by kernel_rfl) ?_
      replace HA := Aside0.mk (HA.out.on hHeld)
      replace HO := Aside0.mk (HO.out.on hHeld)
      replace HF := Aside0.mk (HF.out.on hHeld)
      replace HB := Aside0.mk (bl_on HB.out hHeld HB.out.size)
      replace HS := Aside0.mk (Nat.le_trans HS.out hHeld.size)
      clear hHeld hb1 hge
      go_wp2
      refine start_ (n := 10) (S := fun w' => Below u1.heap.size u1 w') (ds := [9]) (bs 10 0) (by kernel_rfl) rfl rfl ((Below.refl _ _).drew) (fun hHeld => ?_)
      refine pu_ 1 19 (bs 10 2) ?_ ?_ ?_ ?_ ?_
      rotate_left
      · intro w'
        go_simp
        with_reducible rfl
      rotate_left
      · simp only [aS, i64_w, i32_w]
        rfl
      refine pu_ 2 20 (bs 10 6) ?_ ?_ ?_ ?_ ?_
      rotate_left
      · intro w'
        go_simp
        with_reducible rfl
      rotate_left
      · simp only [aS, i64_w, i32_w]
        rfl
      refine pu_ 3 21 (bs 10 14) ?_ ?_ ?_ ?_ ?_
      rotate_left
      · intro w'
        go_simp
        with_reducible rfl
      rotate_left
      · simp only [aS, i64_w, i32_w]
        rfl
      refine take_ (i := 0) (N := some 18) (a' := ?_) (bs 10 15) rfl rfl (by kernel_rfl) (fun _ _ _ h => h) (yields_num (g := w.heap.size) (o := 0) (n := a) (by rfl) (.tmp 4) rfl rfl (fun w' hS => (HA.out.below hS HA.out.size).range)) hHeld ?_ ?_
      rotate_left
      · simp only [aS, i64_w, i32_w]
        rfl
      refine take_ (i := 4) (N := some 22) (a' := ?_) (bs 10 31) rfl rfl (by kernel_rfl) (fun _ _ _ h => h) (yields_num (g := gf) (o := 0) (n := m) (by rfl) (.tmp 21) rfl rfl (fun w' hS => (HF.out.below hS HF.out.size).range0)) hHeld ?_ ?_
      rotate_left
      · simp only [aS, i64_w, i32_w]
        rfl
      refine on1_ 5 (some 23) (bs 10 63) rfl fun K hK => ?_
      refine gs_ Try.func73 #[numV a, numV m] rfl ?_
      with_reducible refine (HD.out _).mono ?_
      rintro e u2 ⟨rfl, hb2⟩
      refine ⟨_, rfl, ?_⟩
      refine hK.out _ _ (hHeld.trans (hb2.mono hHeld.size)) (fun hHeld => ?_)
      clear hK K
      refine nm_ (some 23) ?_
      refine pu_ 6 17 (bs 10 127) ?_ ?_ ?_ ?_ ?_
      rotate_left
      · intro w'
        go_simp
        with_reducible rfl
      rotate_left
      · simp only [aS, i64_w, i32_w]
        rfl
      refine pu_ 7 24 (bs 10 255) ?_ ?_ ?_ ?_ ?_
      rotate_left
      · intro w'
        go_simp
        with_reducible rfl
      rotate_left
      · simp only [aS, i64_w, i32_w]
        rfl
      refine pu_ 8 25 (bs 10 511) ?_ ?_ ?_ ?_ ?_
      rotate_left
      · intro w'
        go_simp
        with_reducible rfl
      rotate_left
      · simp only [aS, i64_w, i32_w]
        rfl
      refine last_ (i := 9) (N := none) (bs 10 1023) rfl rfl (by kernel_rfl) (by decide) (fun K hK => ?_)
      refine skip_num (HA.out.below hHeld HA.out.size) (by rfl) rfl (.tmp 4) (.tmp 24) rfl rfl rfl ?_
      intro u3 hA3 hT3
      refine hK.out _ _ ?_
      clear hK K
      refine done_ (by kernel_rfl) ?_
      replace HA := Aside0.mk (HA.out.on hHeld)
      replace HO := Aside0.mk (HO.out.on hHeld)
      replace HF := Aside0.mk (HF.out.on hHeld)
      replace HB := Aside0.mk (bl_on HB.out hHeld HB.out.size)
      replace HS := Aside0.mk (Nat.le_trans HS.out hHeld.size)
      replace HO := Aside0.mk (HO.out.but hT3 (by omega))
      replace HF := Aside0.mk (HF.out.but hT3 (by have := HG.out; omega))
      replace HA := Aside0.mk hA3
      replace HB := Aside0.mk (bl_but HB.out hT3 HB.out.size (by omega))
      replace HS := Aside0.mk (Nat.le_trans HS.out hT3.size)
      clear hA3 hT3
      go_wp2_with (first | ((with_reducible refine gate_dst (N := 26) rfl ?_); refine ld_num (HA.out.range) rfl _ rfl rfl ?_) | ((with_reducible refine gate_st (y := .tmp 26) rfl ?_); refine st_num (HO.out) rfl _ _ rfl rfl rfl ?_; intro u4 hA4 hT4))
      replace HA := Aside0.mk (HA.out.but hT4 (by omega))
      replace HF := Aside0.mk (HF.out.but hT4 (by have := HG.out; omega))
      replace HO := Aside0.mk hA4
      replace HB := Aside0.mk (bl_but HB.out hT4 HB.out.size (by omega))
      replace HS := Aside0.mk (Nat.le_trans HS.out hT4.size)
      clear hA4 hT4
      exact bodyPost_ret (v := numV d) (results_nat rfl rfl HO.out) rfl ⟨by rw [HR.out], HB.out⟩
  · have HR : Aside0 (r = a) := Aside0.mk (by rw [hr]; unfold lessN; rw [if_neg hcase])
    obtain rfl : D = false := by cases D; · rfl
                                 · exact absurd (Or.inl rfl) hcase
    have hlt := cmp_lt (fun h => hcase (Or.inr h))
    generalize cmpI a m = c at *
    have hlt : decide ((0 : Int) ≤ c) = false := decide_eq_false (Int.not_le.2 hlt)
    clear hcase hd hr
    refine start_ (n := 10) (S := fun w' => Below w1.heap.size w1 w') (ds := []) (bs 10 0) (by kernel_rfl) rfl rfl ((Below.refl _ _).drew) (fun hHeld => ?_)
    refine pu_ 0 7 (bs 10 1) ?_ ?_ ?_ ?_ ?_
    rotate_left
    · intro w'
      go_simp
      with_reducible rfl
    rotate_left
    · simp only [aS, i64_w, i32_w]
      rfl
    refine pu_ 1 8 (bs 10 3) ?_ ?_ ?_ ?_ ?_
    rotate_left
    · intro w'
      go_simp
      with_reducible rfl
    rotate_left
    · simp only [aS, i64_w, i32_w]
      rfl
    refine pu_ 3 10 (bs 10 11) ?_ ?_ ?_ ?_ ?_
    rotate_left
    · intro w'
      go_simp
      with_reducible rfl
    rotate_left
    · simp only [aS, i64_w, i32_w]
      rfl
    refine pu_ 4 11 (bs 10 27) ?_ ?_ ?_ ?_ ?_
    rotate_left
    · intro w'
      go_simp
      with_reducible rfl
    rotate_left
    · simp only [aS, i64_w, i32_w]
      rfl
    refine pu_ 5 12 (bs 10 59) ?_ ?_ ?_ ?_ ?_
    rotate_left
    · intro w'
      go_simp
      with_reducible rfl
    rotate_left
    · simp only [aS, i64_w, i32_w]
      rfl
    refine take_ (i := 2) (N := some 9) (a' := ?_) (bs 10 63) rfl rfl (by kernel_rfl) (fun _ _ _ h => h) (yields_num (g := w.heap.size) (o := 0) (n := a) (by rfl) (.tmp 4) rfl rfl (fun w' hS => (HA.out.below hS HA.out.size).range)) hHeld ?_ ?_
    rotate_left
    · simp only [aS, i64_w, i32_w]
      rfl
    refine take_ (i := 6) (N := some 13) (a' := ?_) (bs 10 127) rfl rfl (by kernel_rfl) (fun _ _ _ h => h) (yields_num (g := gf) (o := 0) (n := m) (by rfl) (.tmp 12) rfl rfl (fun w' hS => (HF.out.below hS HF.out.size).range0)) hHeld ?_ ?_
    rotate_left
    · simp only [aS, i64_w, i32_w]
      rfl
    refine on1_ 7 (some 14) (bs 10 255) rfl fun K hK => ?_
    refine gs_ Try.func54 #[numV a, numV m] rfl ?_
    with_reducible refine (HC.out _).mono ?_
    rintro e u1 ⟨rfl, hb1⟩
    refine ⟨_, rfl, ?_⟩
    refine hK.out _ _ (hHeld.trans (hb1.mono hHeld.size)) (fun hHeld => ?_)
    clear hK K
    refine nm_ (some 14) ?_
    refine pu_ 8 15 (bs 10 511) ?_ ?_ ?_ ?_ ?_
    rotate_left
    · intro w'
      go_simp
      with_reducible rfl
    rotate_left
    · simp only [aS, i64_w, i32_w]
      rfl
    refine pu_ 9 16 (bs 10 1023) ?_ ?_ ?_ ?_ ?_
    rotate_left
    · intro w'
      go_simp
      with_reducible rfl
    rotate_left
    · simp only [aS, i64_w, i32_w]
      rfl
    refine done_ (by kernel_rfl) ?_
    replace HA := Aside0.mk (HA.out.on hHeld)
    replace HO := Aside0.mk (HO.out.on hHeld)
    replace HF := Aside0.mk (HF.out.on hHeld)
    replace HB := Aside0.mk (bl_on HB.out hHeld HB.out.size)
    replace HS := Aside0.mk (Nat.le_trans HS.out hHeld.size)
    clear hHeld hb1 hlt
    go_wp2_with (first | ((with_reducible refine gate_dst (N := 26) rfl ?_); refine ld_num (HA.out.range) rfl _ rfl rfl ?_) | ((with_reducible refine gate_st (y := .tmp 26) rfl ?_); refine st_num (HO.out) rfl _ _ rfl rfl rfl ?_; intro u4 hA4 hT4))
    replace HA := Aside0.mk (HA.out.but hT4 (by omega))
    replace HF := Aside0.mk (HF.out.but hT4 (by have := HG.out; omega))
    replace HO := Aside0.mk hA4
    replace HB := Aside0.mk (bl_but HB.out hT4 HB.out.size (by omega))
    replace HS := Aside0.mk (Nat.le_trans HS.out hT4.size)
    clear hA4 hT4
    exact bodyPost_ret (v := numV a) (results_nat rfl rfl HO.out) rfl ⟨by rw [HR.out], HB.out⟩
end Go.Proofs.Ytkfjhndofbmhoaa
namespace Go.Proofs.Ytkfjhndofbmhoaa
open Go.RowKit Go.Proofs.Ytkfjhndofbmhoaa.Arr Go.Proofs.YtkfjhndofbmhoaaW.PrintWords Go.Proofs.YtkfjhndofbmhoaaW.PrintLast Go.Proofs.YtkfjhndofbmhoaaW.PrintMore
set_option linter.unusedVariables false
set_option linter.unusedSimpArgs false
set_option exponentiation.threshold 600
/-- word q of a wide number -/
def xw (x q : Nat) : Nat := x / 2 ^ (64 * q) % 2 ^ 64
theorem nx_get (x q : Nat) (hq : q < 8) : (nx x)[q]? = some (.int .u64 (xw x q : Nat)) := by
  have e : ∀ a b : Nat, a = b → (some (.int .u64 (a : Nat)) : Option Value) = some (.int .u64 (b : Nat)) := fun a b h => by rw [h]
  match q, hq with
  | 0, _ => exact e _ _ (by unfold wd0 xw; rw [Nat.mul_zero, Nat.pow_zero, Nat.div_one])
  | 1, _ => exact e _ _ rfl
  | 2, _ => exact e _ _ rfl
  | 3, _ => exact e _ _ rfl
  | 4, _ => exact e _ _ rfl
  | 5, _ => exact e _ _ (by unfold wd5 xw; rw [show 64 * 5 = 256 + 64 from rfl, Nat.pow_add])
  | 6, _ => exact e _ _ (by unfold wd6 xw; rw [show 64 * 6 = 256 + 128 from rfl, Nat.pow_add])
  | 7, _ => exact e _ _ (by unfold wd7 xw; rw [show 64 * 7 = 256 + 192 from rfl, Nat.pow_add])
  | n + 8, h => exact absurd h (by omega)
theorem n512 : N512 = 2 ^ 512 := by rw [show 512 = 256 + 256 from rfl, Nat.pow_add]; unfold N512; decide
theorem top_cut (x m : Nat) (hx : x < N512) : x / 2 ^ 512 % m = 0 := by rw [Nat.div_eq_of_lt (by rw [← n512]; exact hx), Nat.zero_mod]
theorem xw_bit (x i : Nat) : xw x (i / 64) / 2 ^ (i % 64) % 2 = x / 2 ^ i % 2 := by
  have h : (xw x (i / 64)).testBit (i % 64) = x.testBit i := by
    unfold xw
    rw [Nat.testBit_mod_two_pow, Nat.testBit_div_two_pow, show i % 64 + 64 * (i / 64) = i by omega]
    simp [Nat.mod_lt i (show 64 > 0 by decide)]
  rw [Nat.testBit_eq_decide_div_mod_eq, Nat.testBit_eq_decide_div_mod_eq, decide_eq_decide] at h
  omega
theorem XAt.cell {w : World} {g x : Nat} (h : XAt w g x) (q : Nat) (hq : q < 8) : w.cell? ⟨g, q, none⟩ = some (.int .u64 (xw x q : Nat)) := Row.cell h _ _ (nx_get x q hq)
theorem or_bit (l b : Nat) (he : l % 2 = 0) (hl : l < N64) (hb : b < 2) : bits .or .u64 (l : Int) (b : Int) = ((l + b : Nat) : Int) := by
  unfold N64 at hl
  rw [u64_or_nat l b (by omega) (by omega)]
  have h := Nat.two_pow_add_eq_or_of_lt (i := 1) (b := b) (by omega) (l / 2)
  rw [show 2 ^ 1 * (l / 2) = l by omega] at h
  rw [← h]
theorem and_bit (z b : Nat) (hb : b = z % 2) (hz : z < N64) : bits .and .u64 (z : Int) 1 = (b : Int) := by
  unfold N64 at hz
  rw [and_one_u64 _ (by omega) (by omega), hb]
  omega
/-- one bit more of what is cut -/
theorem cut_step (x m i : Nat) (hm : m < N256) (h0 : 0 < m) : x / 2 ^ i % m = lessN m ((x / 2 ^ (i + 1) % m + x / 2 ^ (i + 1) % m) % N256 + x / 2 ^ i % 2) (decide (N256 ≤ x / 2 ^ (i + 1) % m + x / 2 ^ (i + 1) % m)) := by
  have e : x / 2 ^ i = 2 * (x / 2 ^ (i + 1)) + x / 2 ^ i % 2 := by rw [Nat.pow_succ, ← Nat.div_div_eq_div_mul]; omega
  have hb : x / 2 ^ i % 2 < 2 := Nat.mod_lt _ (by decide)
  have hv := Nat.mod_lt (x / 2 ^ (i + 1)) h0
  have hd := Nat.div_add_mod (x / 2 ^ (i + 1)) m
  generalize x / 2 ^ i % 2 = b at *
  generalize x / 2 ^ i = y at *
  generalize x / 2 ^ (i + 1) = z at *
  generalize z % m = v at *
  have e2 : y % m = (2 * v + b) % m := by
    rw [e, ← hd, show 2 * (m * (z / m) + v) + b = (2 * v + b) + m * (2 * (z / m)) by rw [Nat.mul_add, Nat.mul_left_comm]; omega, Nat.add_mul_mod_self_left]
  rw [e2]
  clear e e2 hd
  unfold lessN
  by_cases h1 : N256 ≤ v + v
  · rw [if_pos (Or.inl (by simpa using h1)), Nat.mod_eq_sub_mod h1, Nat.mod_eq_of_lt (a := v + v - N256) (by omega), show v + v - N256 + b + N256 - m = 2 * v + b - m by omega, Nat.mod_eq_of_lt (a := 2 * v + b - m) (by omega), Nat.mod_eq_sub_mod (by omega), Nat.mod_eq_of_lt (by omega)]
  · rw [Nat.mod_eq_of_lt (a := v + v) (by omega)]
    by_cases h2 : m ≤ v + v + b
    · rw [if_pos (Or.inr h2), show v + v + b + N256 - m = 2 * v + b - m + N256 by omega, Nat.add_mod_right, Nat.mod_eq_of_lt (a := 2 * v + b - m) (by omega), Nat.mod_eq_sub_mod (by omega), Nat.mod_eq_of_lt (by omega)]
    · rw [if_neg (by intro h; rcases h with h | h; · exact h1 (by simpa using h)
                     · exact h2 h), Nat.mod_eq_of_lt (by omega)]
      omega
/-- a bit or-ed into an even number -/
theorem even_words (n b : Nat) (hn : n % 2 = 0) (hN : n < N256) (hb : b < 2) : wd0 n % 2 = 0 ∧ n + b < N256 ∧ wd0 (n + b) = wd0 n + b ∧ wd1 (n + b) = wd1 n ∧ wd2 (n + b) = wd2 n ∧ wd3 (n + b) = wd3 n := by
  unfold N256 at hN
  unfold wd0 wd1 wd2 wd3 N256
  refine ⟨by omega, by omega, by omega, by omega, by omega, by omega⟩
theorem even_sum (v : Nat) : (v + v) % N256 % 2 = 0 := by unfold N256; omega
theorem NAt.low {w : World} {g n b l : Nat} (h : NAt w g n) (he : wd0 (n + b) = l ∧ wd1 (n + b) = wd1 n ∧ wd2 (n + b) = wd2 n ∧ wd3 (n + b) = wd3 n) : NAt (w.setCell ⟨g, 0, none⟩ (.int .u64 (l : Nat))) g (n + b) := by
  have h1 := Row.set h 0 (.int .u64 (l : Nat))
  unfold NAt nw
  rw [he.1, he.2.1, he.2.2.1, he.2.2.2]
  exact h1
theorem but_set {w : World} (g i : Nat) (v : Value) : But w.heap.size g w (w.setCell ⟨g, i, none⟩ v) := (But.of (Below.refl _ _)).self i v
theorem cut_div (i : Nat) (h : i < 512) : wrap64 ((i : Int) / 64) = ((i / 64 : Nat) : Int) ∧ (i : Int) % 64 = ((i % 64 : Nat) : Int) ∧ i / 64 < 8 ∧ i % 64 < 64 ∧ ((0 : Int) ≤ (i : Int)) ∧ (((i / 64 : Nat) : Int) < 8) ∧ ((0 : Int) ≤ ((i / 64 : Nat) : Int)) ∧ ((0 : Int) ≤ ((i % 64 : Nat) : Int)) := ⟨by unfold wrap64; omega, by omega, by omega, by omega, by omega, by omega, by omega, by omega⟩
theorem cast_tmod (n : Nat) (m : Int) : Int.tmod (n : Int) m = (n : Int) % m := Int.tmod_eq_emod_of_nonneg (Int.natCast_nonneg n)
attribute [local go_sem high] cast_tmod
theorem cut_meas (i : Nat) : (intOf (.int .i64 ((i : Int) - 1)) + 1).toNat < (intOf (.int .i64 (i : Int)) + 1).toNat := by
  show ((i : Int) - 1 + 1).toNat < ((i : Int) + 1).toNat
  omega
theorem dec64 (i : Nat) (h : i < 512) : wrap64 ((i : Int) - 1) = (i : Int) - 1 := by unfold wrap64; omega
set_option maxRecDepth 100000 in
set_option maxHeartbeats 8000000 in
/-- (*field.Field).Cut -/
theorem fcut_calls {gf m t o s : Nat} (x : Nat) (w : World) (hF : FAt w gf m t o s) (hm : m < N256) (h0 : 0 < m) (hx : x < N512) :
    Calls Try.prog 69 #[.pointer (some ⟨gf, 0, none⟩), wideV x] w fun e w' => e = .returned (numV (x % m)) ∧ Below w.heap.size w w' := by
  have HG : Aside0 (gf < w.heap.size) := Aside0.mk hF.size
  have HM : Aside0 (m < N256 ∧ 0 < m ∧ x < N512) := Aside0.mk ⟨hm, h0, hx⟩
  rw [wideV_def x]
  clear hm h0 hx
  go_enter Try.func69, Try.ntmps69
  go_upto_region 2 with (fail)
  refine wp_at (w2 := (World.alloc (World.alloc (World.alloc w (.cells (nx x).toArray 90)) (.cells (nw 0).toArray 24)) (.cells (nw 0).toArray 24))) rfl ?_
  obtain ⟨x_0, e_0, h_0, b_0, s_0⟩ := new_wide w x
  obtain ⟨x_1, e_1, h_1, b_1, s_1⟩ := new_num x_0 0
  obtain ⟨x_2, e_2, h_2, b_2, s_2⟩ := new_num x_1 0
  rw [e_0, e_1, e_2]
  rw [s_0] at h_1 s_1
  rw [s_1] at h_2 s_2
  have HB : Aside0 (Below w.heap.size w x_2) := Aside0.mk (bl_both (bl_both b_0 b_1) b_2)
  have HX : Aside0 (XAt x_2 (w.heap.size) x) := Aside0.mk ((h_0.on b_1).on b_2)
  have HR : Aside0 (NAt x_2 (w.heap.size + 1) 0) := Aside0.mk (h_1.on b_2)
  have HO : Aside0 (NAt x_2 (w.heap.size + 1 + 1) 0) := Aside0.mk h_2
  have HS : Aside0 (w.heap.size + 1 + 1 + 1 ≤ x_2.heap.size) := Aside0.mk (Nat.le_of_eq s_2.symm)
  have HF := Aside0.mk (hF.on HB.out)
  clear e_0 h_0 b_0 s_0 e_1 h_1 b_1 s_1 e_2 h_2 b_2 s_2 hF
  obtain ⟨w1, hw_⟩ : ∃ x, x = x_2 := ⟨_, rfl⟩
  subst hw_
  clear x_0 x_1
  have HX0 : Aside0 (NAt w1 (w.heap.size + 1 + 1) (x / 2 ^ 512 % m)) := Aside0.mk (by rw [top_cut x m HM.out.2.2]; exact HO.out)
  go_wp2
  go_loopw [6] (fun v wr => ∃ j : Nat, j ≤ 512 ∧ v = .int .i64 ((j : Int) - 1) ∧ Aside0 (XAt wr (w.heap.size) x) ∧ Aside0 (NAt wr (w.heap.size + 1) 0) ∧ Aside0 (NAt wr (w.heap.size + 1 + 1) (x / 2 ^ j % m)) ∧ Aside0 (FAt wr gf m t o s) ∧ Aside0 (Below w.heap.size w wr) ∧ Aside0 (w.heap.size + 1 + 1 + 1 ≤ wr.heap.size))
    (fun v _ => (intOf v + 1).toNat)
  case atStart => exact ⟨512, Nat.le_refl _, rfl, HX, HR, HX0, HF, HB, HS⟩
  case round =>
    clear HX HR HX0 HO HF HB HS
    obtain ⟨j, hj, rfl, HX, HR, HO, HF, HB, HS⟩ := hrel
    obtain ⟨u0, hu0⟩ : ∃ x, x = wr := ⟨_, rfl⟩
    subst hu0
    by_cases hj0 : j = 0
    · subst hj0
      have HR0 : Aside0 (x / 2 ^ 0 % m = x % m) := Aside0.mk (by rw [Nat.pow_zero, Nat.div_one])
      rw [HR0.out] at HO
      clear hj HR0
      go_wp2_with (first | ((with_reducible refine gate_dst (N := 35) rfl ?_); refine ld_num (HO.out.range) rfl _ rfl rfl ?_) | ((with_reducible refine gate_st (y := .tmp 35) rfl ?_); refine st_num (HR.out) rfl _ _ rfl rfl rfl ?_; intro u4 hA4 hT4; replace HX := Aside0.mk (HX.out.but hT4 (by omega)); replace HO := Aside0.mk (HO.out.but hT4 (by omega)); replace HF := Aside0.mk (HF.out.but hT4 (by have := HG.out; omega)); replace HR := Aside0.mk hA4; replace HB := Aside0.mk (bl_but HB.out hT4 HB.out.size (by omega)); replace HS := Aside0.mk (Nat.le_trans HS.out hT4.size); clear hA4 hT4))
      exact bodyPost_ret (v := numV (x % m)) (results_nat rfl rfl HR.out) rfl ⟨rfl, HB.out⟩
    · obtain ⟨i, rfl⟩ : ∃ i, j = i + 1 := ⟨j - 1, by omega⟩
      have hi : i < 512 := hj
      rw [show (((i + 1 : Nat) : Int) - 1) = (i : Int) by omega]
      obtain ⟨v, hv⟩ : ∃ v, v = x / 2 ^ (i + 1) % m := ⟨_, rfl⟩
      obtain ⟨b, hb⟩ : ∃ b, b = x / 2 ^ i % 2 := ⟨_, rfl⟩
      obtain ⟨n, hn⟩ : ∃ n, n = (v + v) % N256 := ⟨_, rfl⟩
      obtain ⟨D, hD⟩ : ∃ D, D = decide (N256 ≤ v + v) := ⟨_, rfl⟩
      have hb2 : b < 2 := by rw [hb]; exact Nat.mod_lt _ (by decide)
      have hnN : n < N256 := by rw [hn]; exact Nat.mod_lt _ N256_pos
      have hvN : v < N256 := by rw [hv]; exact Nat.lt_trans (Nat.mod_lt _ HM.out.2.1) HM.out.1
      have hstep : x / 2 ^ i % m = lessN m (n + b) D := by rw [hn, hD, hv, hb]; exact cut_step x m i HM.out.1 HM.out.2.1
      have hew := even_words n b (by rw [hn]; exact even_sum v) hnN hb2
      obtain ⟨q1, q2, q3, q4, t1, t2, t3, t4⟩ := cut_div i hi
      obtain ⟨q, hq⟩ : ∃ q, q = i / 64 := ⟨_, rfl⟩
      obtain ⟨r, hr⟩ : ∃ q, q = i % 64 := ⟨_, rfl⟩
      have hbit := xw_bit x i
      rw [← hq, ← hr, ← hb] at hbit
      rw [← hq] at q1 q3 t2 t3
      rw [← hr] at q2 q4 t4
      obtain ⟨W, hW⟩ : ∃ W, W = xw x q := ⟨_, rfl⟩
      obtain ⟨z, hz⟩ : ∃ z, z = W / 2 ^ r := ⟨_, rfl⟩
      rw [← hW, ← hz] at hbit
      have hWl : W < N64 := by rw [hW]; unfold xw N64; exact Nat.mod_lt _ (by decide)
      have f1 : (W : Int) / 2 ^ r = (z : Int) := by rw [hz, Int.natCast_ediv, Int.natCast_pow]; rfl
      have f2 : bits .and .u64 (z : Int) 1 = (b : Int) := and_bit z b hbit.symm (Nat.lt_of_le_of_lt (by rw [hz]; exact Nat.div_le_self _ _) hWl)
      obtain ⟨l1, hl1⟩ : ∃ l, l = wd0 n + b := ⟨_, rfl⟩
      have f3 : bits .or .u64 ((wd0 n : Nat) : Int) (b : Int) = (l1 : Int) := by rw [hl1]; exact or_bit (wd0 n) b hew.1 (wd0_lt n) hb2
      rw [← hl1] at hew
      have HC := Aside0.mk (fun u => add_calls (IsNum.mk hvN) (IsNum.mk hvN) u)
      rw [← hn, ← hD] at HC
      have HL := Aside0.mk (fun (u : World) (h : FAt u gf m t o s) => fless_calls (n + b) D u h hew.2.1 HM.out.1)
      rw [← hstep] at HL
      rw [← hv] at HO
      have HE := Aside0.mk hew.2.2
      have HQ1 := Aside0.mk q1
      have HI := Aside0.mk (And.intro hi (And.intro q3 hW))
      clear hv hb hn hD hb2 hnN hvN hstep hew hq hr hbit hz hWl hW q1 hl1 hj hj0 hi q3
      go_upto_region 6 with (first | ((with_reducible refine gate_dst (N := 14) rfl ?_); refine ld_num (HO.out.range) rfl _ rfl rfl ?_) | ((with_reducible refine gate_dst (N := 15) rfl ?_); refine ld_num (HO.out.range) rfl _ rfl rfl ?_) | ((with_reducible refine gate_callee (f := 24) rfl ?_); refine goesL_ (some 16) rfl rfl Try.func24 (by kernel_rfl) rfl #[numV v, numV v] rfl (by (try simp only [List.map_toArray, List.map_cons, List.map_nil]); first | done | rfl) ?_; (with_reducible refine (HC.out _).mono ?_); rintro e u1 ⟨rfl, hb1⟩; replace HX := Aside0.mk (HX.out.on hb1); replace HR := Aside0.mk (HR.out.on hb1); replace HO := Aside0.mk (HO.out.on hb1); replace HF := Aside0.mk (HF.out.on hb1); replace HB := Aside0.mk (bl_on HB.out hb1 HB.out.size); replace HS := Aside0.mk (Nat.le_trans HS.out hb1.size); clear hb1; refine ⟨_, rfl, ?_⟩) | ((with_reducible refine gate_dst (N := 7) rfl ?_); refine al_num rfl _ rfl rfl ?_; intro g7 u2 eg7 HN hb2; have HXg7 : Aside0 (w.heap.size + 1 + 1 + 1 ≤ g7) := Aside0.mk (by rw [eg7]; exact HS.out); have HGf7 : Aside0 (gf < g7) := Aside0.mk (by have := HG.out; have := HXg7.out; omega); replace HN := Aside0.mk HN; clear eg7; replace HX := Aside0.mk (HX.out.on hb2); replace HR := Aside0.mk (HR.out.on hb2); replace HO := Aside0.mk (HO.out.on hb2); replace HF := Aside0.mk (HF.out.on hb2); replace HB := Aside0.mk (bl_on HB.out hb2 HB.out.size); replace HS := Aside0.mk (Nat.le_trans HS.out hb2.size); clear hb2) | ((with_reducible refine gate_st (y := .tmp 17) rfl ?_); refine st_num (HN.out) rfl _ _ rfl rfl rfl ?_; intro u3 hA3 hT3; replace HX := Aside0.mk (HX.out.but hT3 (by have := HXg7.out; have := HGf7.out; have := HG.out; omega)); replace HR := Aside0.mk (HR.out.but hT3 (by have := HXg7.out; have := HGf7.out; have := HG.out; omega)); replace HO := Aside0.mk (HO.out.but hT3 (by have := HXg7.out; have := HGf7.out; have := HG.out; omega)); replace HF := Aside0.mk (HF.out.but hT3 (by have := HXg7.out; have := HGf7.out; have := HG.out; omega)); replace HN := Aside0.mk hA3; replace HB := Aside0.mk (bl_but HB.out hT3 HB.out.size (by have := HXg7.out; omega)); replace HS := Aside0.mk (Nat.le_trans HS.out hT3.size); clear hA3 hT3))
      have q1 := HQ1.out
      have cx := HX.out.cell q HI.out.2.1
      rw [← HI.out.2.2] at cx
      have cn := HN.out.cell.1
      have cz := HN.out.free 0
      refine start_ (n := 13) (S := fun w' => w'.cell? ⟨w.heap.size, q, none⟩ = some (.int .u64 (W : Nat)) ∧ w'.cell? ⟨g7, 0, none⟩ = some (.int .u64 (wd0 n : Nat))) (ds := [12]) (bs 13 0) (by kernel_rfl) rfl rfl ⟨cx, cn⟩ (fun hHeld => ?_)
      refine pu_ 0 19 (bs 13 1) ?_ ?_ ?_ ?_ ?_
      rotate_left
      · intro w'
        go_simp
        with_reducible rfl
      rotate_left
      · simp only [aS, i64_w, i32_w]
        rfl
      refine pu_ 2 21 (bs 13 5) ?_ ?_ ?_ ?_ ?_
      rotate_left
      · intro w'
        go_simp
        with_reducible rfl
      rotate_left
      · simp only [aS, i64_w, i32_w]
        rfl
      refine pu_ 3 22 (bs 13 13) ?_ ?_ ?_ ?_ ?_
      rotate_left
      · intro w'
        go_simp
        with_reducible rfl
      rotate_left
      · simp only [aS, i64_w, i32_w]
        rfl
      refine pu_ 4 23 (bs 13 29) ?_ ?_ ?_ ?_ ?_
      rotate_left
      · intro w'
        go_simp
        with_reducible rfl
      rotate_left
      · simp only [aS, i64_w, i32_w]
        rfl
      refine pu_ 6 25 (bs 13 93) ?_ ?_ ?_ ?_ ?_
      rotate_left
      · intro w'
        go_simp
        with_reducible rfl
      rotate_left
      · simp only [aS, i64_w, i32_w]
        rfl
      refine pu_ 7 26 (bs 13 221) ?_ ?_ ?_ ?_ ?_
      rotate_left
      · intro w'
        go_simp
        with_reducible rfl
      rotate_left
      · simp only [aS, i64_w, i32_w]
        rfl
      refine tk_ 1 20 (bs 13 223) ?_ ?_ hHeld ?_ ?_ ?_
      rotate_left
      · rintro w' ⟨s0, s1⟩
        go_simp
        with_reducible rfl
      rotate_left
      · simp only [aS, i64_w, i32_w]
        rfl
      refine tk_ 5 24 (bs 13 255) ?_ ?_ hHeld ?_ ?_ ?_
      rotate_left
      · rintro w' ⟨s0, s1⟩
        go_simp
        with_reducible rfl
      rotate_left
      · simp only [aS, i64_w, i32_w]
        rfl
      refine pu_ 8 27 (bs 13 511) ?_ ?_ ?_ ?_ ?_
      rotate_left
      · intro w'
        go_simp
        with_reducible rfl
      rotate_left
      · simp only [aS, i64_w, i32_w]
        rfl
      refine pu_ 9 28 (bs 13 1023) ?_ ?_ ?_ ?_ ?_
      rotate_left
      · intro w'
        go_simp
        with_reducible rfl
      rotate_left
      · simp only [aS, i64_w, i32_w]
        rfl
      refine pu_ 10 29 (bs 13 2047) ?_ ?_ ?_ ?_ ?_
      rotate_left
      · intro w'
        go_simp
        with_reducible rfl
      rotate_left
      · simp only [aS, i64_w, i32_w]
        rfl
      refine pu_ 11 30 (bs 13 4095) ?_ ?_ ?_ ?_ ?_
      rotate_left
      · intro w'
        go_simp
        with_reducible rfl
      rotate_left
      · simp only [aS, i64_w, i32_w]
        rfl
      refine last_ (i := 12) (N := none) (bs 13 8191) rfl rfl (by kernel_rfl) (by decide) (fun K hK => ?_)
      refine skip_ (w1 := ?_) (by rfl) rfl ?_ ?_
      rotate_left
      · go_simp
        rfl
      refine hK.out _ _ ?_
      clear hK K
      refine done_ (by kernel_rfl) ?_
      clear hHeld cx cn cz q1 f1 f2 f3 q2 t2 t3 t4 HQ1 HC
      have hA5 : NAt (World.drew (World.setCell u3 ⟨g7, 0, none⟩ (.int .u64 (l1 : Int)))) g7 (n + b) := NAt.low HN.out HE.out
      have hT5 : But u3.heap.size g7 u3 (World.drew (World.setCell u3 ⟨g7, 0, none⟩ (.int .u64 (l1 : Int)))) := (but_set _ _ _).drew
      generalize (World.drew (World.setCell u3 ⟨g7, 0, none⟩ (.int .u64 (l1 : Int)))) = u5 at *
      replace HX := Aside0.mk (HX.out.but hT5 (by have := HXg7.out; have := HGf7.out; have := HG.out; omega))
      replace HR := Aside0.mk (HR.out.but hT5 (by have := HXg7.out; have := HGf7.out; have := HG.out; omega))
      replace HO := Aside0.mk (HO.out.but hT5 (by have := HXg7.out; have := HGf7.out; have := HG.out; omega))
      replace HF := Aside0.mk (HF.out.but hT5 (by have := HXg7.out; have := HGf7.out; have := HG.out; omega))
      replace HN := Aside0.mk hA5
      replace HB := Aside0.mk (bl_but HB.out hT5 HB.out.size (by have := HXg7.out; omega))
      replace HS := Aside0.mk (Nat.le_trans HS.out hT5.size)
      clear hA5 hT5
      have d1 := dec64 i HI.out.1
      go_upto_region 4 with (first | ((with_reducible refine gate_dst (N := 32) rfl ?_); refine ld_num (HN.out.range) rfl _ rfl rfl ?_) | ((with_reducible refine gate_callee (f := 72) rfl ?_); refine goesL_ (some 34) rfl rfl Try.func72 (by kernel_rfl) rfl #[.pointer (some ⟨gf, 0, none⟩), numV (n + b), .bool D] rfl (by (try simp only [List.map_toArray, List.map_cons, List.map_nil]); first | done | rfl) ?_; (with_reducible refine (HL.out _ HF.out).mono ?_); rintro e u6 ⟨rfl, hb6⟩; replace HX := Aside0.mk (HX.out.on hb6); replace HR := Aside0.mk (HR.out.on hb6); replace HO := Aside0.mk (HO.out.on hb6); replace HF := Aside0.mk (HF.out.on hb6); replace HN := Aside0.mk (HN.out.on hb6); replace HB := Aside0.mk (bl_on HB.out hb6 HB.out.size); replace HS := Aside0.mk (Nat.le_trans HS.out hb6.size); clear hb6; refine ⟨_, rfl, ?_⟩) | ((with_reducible refine gate_st (y := .tmp 34) rfl ?_); refine st_num (HO.out) rfl _ _ rfl rfl rfl ?_; intro u7 hA7 hT7; replace HX := Aside0.mk (HX.out.but hT7 (by first | omega | (have := HG.out; omega) | (have := HXg7.out; omega))); replace HR := Aside0.mk (HR.out.but hT7 (by first | omega | (have := HG.out; omega) | (have := HXg7.out; omega))); replace HF := Aside0.mk (HF.out.but hT7 (by first | omega | (have := HG.out; omega) | (have := HXg7.out; omega))); replace HN := Aside0.mk (HN.out.but hT7 (by first | omega | (have := HG.out; omega) | (have := HXg7.out; omega))); replace HO := Aside0.mk hA7; replace HB := Aside0.mk (bl_but HB.out hT7 HB.out.size (by omega)); replace HS := Aside0.mk (Nat.le_trans HS.out hT7.size); clear hA7 hT7))
      go_wp2
      refine ⟨⟨i, ?_, ?_, ?_, ?_, ?_, ?_, ?_, ?_⟩, ?_⟩
      · exact Nat.le_of_lt HI.out.1
      · (try rw [d1])
      · exact HX
      · exact HR
      · exact HO
      · exact HF
      · exact HB
      · exact HS
      · (try rw [d1]); exact cut_meas i
end Go.Proofs.Ytkfjhndofbmhoaa
