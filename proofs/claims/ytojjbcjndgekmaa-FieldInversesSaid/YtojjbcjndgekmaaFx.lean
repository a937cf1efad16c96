/- The field's Mul, Pow. -/
import Derived.Test.YtojjbcjndgekmaaFw
import Derived.Test.YtojjbcjndgekmaaFn
namespace Go.Proofs.Ytojjbcjndgekmaa
open Go.RowKit Go.Proofs.Ytojjbcjndgekmaa.Arr Go.Proofs.YtojjbcjndgekmaaW.PrintWords Go.Proofs.YtojjbcjndgekmaaW.PrintLast Go.Proofs.YtojjbcjndgekmaaW.PrintMore
set_option linter.unusedVariables false
set_option linter.unusedSimpArgs false
/-- a number as the rounds take it -/
def mf (m p : Nat) : Nat := p * N256 % m
theorem nn : N512 = N256 * N256 := by unfold N256 N512; decide
theorem mod2 (m a b c : Nat) : (a % m) * (b % m) * c % m = a * b * c % m := by
  rw [Nat.mul_mod, ← Nat.mul_mod a b m, ← Nat.mul_mod]
theorem cancel_rn (m x R N : Nat) (h : R * N % m = 1) : x * (R * N) % m = x % m := by rw [Nat.mul_mod, h, Nat.mul_one, Nat.mod_mod]
theorem monR_mf (m p q : Nat) (hm : m % 2 = 1) (h1 : 1 < m) : monR m (mf m p) (mf m q) = mf m (p * q) := by
  have h := rinv_ok m hm h1
  unfold monR mf
  generalize rinv m = R at *
  generalize N256 = N at *
  rw [mod2, show p * N * (q * N) * R = (p * q * N) * (R * N) by simp only [Nat.mul_assoc, Nat.mul_comm, Nat.mul_left_comm], cancel_rn m _ R N h]
theorem monR_sq (m x : Nat) (hm : m % 2 = 1) (h1 : 1 < m) : monR m x (N512 % m) = mf m x := by
  have h := rinv_ok m hm h1
  unfold monR mf
  rw [nn]
  generalize rinv m = R at *
  generalize N256 = N at *
  rw [Nat.mul_mod, Nat.mul_mod x, Nat.mod_mod, ← Nat.mul_mod x, ← Nat.mul_mod, show x * (N * N) * R = (x * N) * (R * N) by simp only [Nat.mul_assoc, Nat.mul_comm, Nat.mul_left_comm], cancel_rn m _ R N h]
theorem monR_one (m p : Nat) (hm : m % 2 = 1) (h1 : 1 < m) : monR m (mf m p) 1 = p % m := by
  have h := rinv_ok m hm h1
  unfold monR mf
  generalize rinv m = R at *
  generalize N256 = N at *
  rw [Nat.mul_one, Nat.mod_mul_mod, show p * N * R = p * (R * N) by simp only [Nat.mul_assoc, Nat.mul_comm, Nat.mul_left_comm], cancel_rn m _ R N h]
theorem monR_lt (m a b : Nat) (h : 0 < m) : monR m a b < m := Nat.mod_lt _ h
theorem mf_lt (m p : Nat) (h : 0 < m) : mf m p < m := Nat.mod_lt _ h
theorem monR_mul (m x y : Nat) (hm : m % 2 = 1) (h1 : 1 < m) : monR m (monR m x y) (N512 % m) = x * y % m := by
  rw [monR_sq m _ hm h1]
  have h := rinv_ok m hm h1
  unfold mf monR
  generalize rinv m = R at *
  generalize N256 = N at *
  rw [Nat.mod_mul_mod, show x * y * R * N = x * y * (R * N) by simp only [Nat.mul_assoc], cancel_rn m _ R N h]
set_option maxRecDepth 100000 in
set_option maxHeartbeats 8000000 in
/-- (*field.Field).Mul -/
theorem fmul_calls {gf m : Nat} (a b : Nat) (w : World) (hF : FAt w gf m (turnN m) (N256 % m) (N512 % m)) (hm : m < N256) (hm1 : m % 2 = 1) (h1 : 1 < m) (ha : a < N256) (hb : b < N256) :
    Calls Try.prog 23 #[.pointer (some ⟨gf, 0, none⟩), numV a, numV b] w fun e w' => e = .returned (numV (a * b % m)) ∧ Below w.heap.size w w' := by
  have HG : Aside0 (gf < w.heap.size) := Aside0.mk hF.size
  have h0 : 0 < m := by omega
  obtain ⟨ht1, ht2⟩ := turn_ok m hm1
  have HI1 := Aside0.mk (fun (u : World) (h : FAt u gf m (turnN m) (N256 % m) (N512 % m)) => fin_calls a u h hm h0 ha)
  have HI2 := Aside0.mk (fun (u : World) (h : FAt u gf m (turnN m) (N256 % m) (N512 % m)) => fin_calls b u h hm h0 hb)
  have HM1 := Aside0.mk (fun (u : World) (h : FAt u gf m (turnN m) (N256 % m) (N512 % m)) => fmont_calls (a % m) (b % m) u h hm hm1 h1 ht1 ht2 (Nat.mod_lt a h0) (Nat.lt_trans (Nat.mod_lt b h0) hm))
  have HM2 := Aside0.mk (fun (u : World) (h : FAt u gf m (turnN m) (N256 % m) (N512 % m)) => fmont_calls (monR m (a % m) (b % m)) (N512 % m) u h hm hm1 h1 ht1 ht2 (monR_lt m _ _ h0) (Nat.lt_trans (Nat.mod_lt _ h0) hm))
  rw [monR_mul m _ _ hm1 h1, ← Nat.mul_mod] at HM2
  rw [numV_def a, numV_def b]
  generalize a * b % m = r at *
  generalize monR m (a % m) (b % m) = p at *
  generalize a % m = x at *
  generalize b % m = y at *
  generalize turnN m = t at *
  generalize N256 % m = o at *
  generalize N512 % m = s at *
  clear hm hm1 h1 ha hb h0 ht1 ht2
  go_enter Try.func23, Try.ntmps23
  go_upto_region 1 with (fail)
  refine wp_at (w2 := (World.alloc (World.alloc (World.alloc w (.cells (nw a).toArray 24)) (.cells (nw b).toArray 24)) (.cells (nw 0).toArray 24))) rfl ?_
  obtain ⟨x_0, e_0, h_0, b_0, s_0⟩ := new_num w a
  obtain ⟨x_1, e_1, h_1, b_1, s_1⟩ := new_num x_0 b
  obtain ⟨x_2, e_2, h_2, b_2, s_2⟩ := new_num x_1 0
  rw [e_0, e_1, e_2]
  rw [s_0] at h_1 s_1
  rw [s_1] at h_2 s_2
  have HB : Aside0 (Below w.heap.size w x_2) := Aside0.mk (bl_both (bl_both b_0 b_1) b_2)
  have HA : Aside0 (NAt x_2 (w.heap.size) a) := Aside0.mk ((h_0.on b_1).on b_2)
  have HB2 : Aside0 (NAt x_2 (w.heap.size + 1) b) := Aside0.mk (h_1.on b_2)
  have HR : Aside0 (NAt x_2 (w.heap.size + 1 + 1) 0) := Aside0.mk h_2
  have HS : Aside0 (w.heap.size + 1 + 1 + 1 ≤ x_2.heap.size) := Aside0.mk (Nat.le_of_eq s_2.symm)
  have HF := Aside0.mk (hF.on HB.out)
  clear e_0 h_0 b_0 s_0 e_1 h_1 b_1 s_1 e_2 h_2 b_2 s_2 hF
  obtain ⟨w1, hw_⟩ : ∃ x, x = x_2 := ⟨_, rfl⟩
  subst hw_
  clear x_0 x_1
  refine start_ (n := 15) (S := fun w' => Below w1.heap.size w1 w') (ds := [14]) #[false, false, false, false, false, false, false, false, false, false, false, false, false, false, false] (by kernel_rfl) rfl rfl ((Below.refl _ _).drew) (fun hHeld => ?_)
  refine pure_ (i := 0) (N := some 7) (v := ?_) (a' := ?_) #[true, false, false, false, false, false, false, false, false, false, false, false, false, false, false] rfl rfl (by kernel_rfl) (fun _ _ _ h => h) (Or.inl ⟨by rfl, ?_⟩) ?_ ?_
  rotate_left
  · intro w'
    go_simp
    with_reducible rfl
  rotate_left
  · simp only [Act.put, List.setIfInBounds_toArray, List.set_cons_zero, List.set_cons_succ, i64_w, i32_w]
    rfl
  refine pure_ (i := 1) (N := some 8) (v := ?_) (a' := ?_) #[true, true, false, false, false, false, false, false, false, false, false, false, false, false, false] rfl rfl (by kernel_rfl) (fun _ _ _ h => h) (Or.inl ⟨by rfl, ?_⟩) ?_ ?_
  rotate_left
  · intro w'
    go_simp
    with_reducible rfl
  rotate_left
  · simp only [Act.put, List.setIfInBounds_toArray, List.set_cons_zero, List.set_cons_succ, i64_w, i32_w]
    rfl
  refine pure_ (i := 2) (N := some 9) (v := ?_) (a' := ?_) #[true, true, true, false, false, false, false, false, false, false, false, false, false, false, false] rfl rfl (by kernel_rfl) (fun _ _ _ h => h) (Or.inl ⟨by rfl, ?_⟩) ?_ ?_
  rotate_left
  · intro w'
    go_simp
    with_reducible rfl
  rotate_left
  · simp only [Act.put, List.setIfInBounds_toArray, List.set_cons_zero, List.set_cons_succ, i64_w, i32_w]
    rfl
  refine pure_ (i := 5) (N := some 12) (v := ?_) (a' := ?_) #[true, true, true, false, false, true, false, false, false, false, false, false, false, false, false] rfl rfl (by kernel_rfl) (fun _ _ _ h => h) (Or.inl ⟨by rfl, ?_⟩) ?_ ?_
  rotate_left
  · intro w'
    go_simp
    with_reducible rfl
  rotate_left
  · simp only [Act.put, List.setIfInBounds_toArray, List.set_cons_zero, List.set_cons_succ, i64_w, i32_w]
    rfl
  refine pure_ (i := 9) (N := some 16) (v := ?_) (a' := ?_) #[true, true, true, false, false, true, false, false, false, true, false, false, false, false, false] rfl rfl (by kernel_rfl) (fun _ _ _ h => h) (Or.inl ⟨by rfl, ?_⟩) ?_ ?_
  rotate_left
  · intro w'
    go_simp
    with_reducible rfl
  rotate_left
  · simp only [Act.put, List.setIfInBounds_toArray, List.set_cons_zero, List.set_cons_succ, i64_w, i32_w]
    rfl
  refine pure_ (i := 10) (N := some 17) (v := ?_) (a' := ?_) #[true, true, true, false, false, true, false, false, false, true, true, false, false, false, false] rfl rfl (by kernel_rfl) (fun _ _ _ h => h) (Or.inl ⟨by rfl, ?_⟩) ?_ ?_
  rotate_left
  · intro w'
    go_simp
    with_reducible rfl
  rotate_left
  · simp only [Act.put, List.setIfInBounds_toArray, List.set_cons_zero, List.set_cons_succ, i64_w, i32_w]
    rfl
  refine pure_ (i := 11) (N := some 18) (v := ?_) (a' := ?_) #[true, true, true, false, false, true, false, false, false, true, true, true, false, false, false] rfl rfl (by kernel_rfl) (fun _ _ _ h => h) (Or.inl ⟨by rfl, ?_⟩) ?_ ?_
  rotate_left
  · intro w'
    go_simp
    with_reducible rfl
  rotate_left
  · simp only [Act.put, List.setIfInBounds_toArray, List.set_cons_zero, List.set_cons_succ, i64_w, i32_w]
    rfl
  refine take_ (i := 3) (N := some 10) (a' := ?_) #[true, true, true, true, false, true, false, false, false, true, true, true, false, false, false] rfl rfl (by kernel_rfl) (fun _ _ _ h => h) (yields_num (g := w.heap.size) (o := 0) (n := a) (by rfl) (.tmp 4) rfl rfl (fun w' hS => (HA.out.below hS HA.out.size).range)) hHeld ?_ ?_
  rotate_left
  · simp only [Act.put, List.setIfInBounds_toArray, List.set_cons_zero, List.set_cons_succ, i64_w, i32_w]
    rfl
  refine take_ (i := 6) (N := some 13) (a' := ?_) #[true, true, true, true, false, true, true, false, false, true, true, true, false, false, false] rfl rfl (by kernel_rfl) (fun _ _ _ h => h) (yields_num (g := w.heap.size + 1) (o := 0) (n := b) (by rfl) (.tmp 5) rfl rfl (fun w' hS => (HB2.out.below hS HB2.out.size).range)) hHeld ?_ ?_
  rotate_left
  · simp only [Act.put, List.setIfInBounds_toArray, List.set_cons_zero, List.set_cons_succ, i64_w, i32_w]
    rfl
  refine take_ (i := 12) (N := some 19) (a' := ?_) #[true, true, true, true, false, true, true, false, false, true, true, true, true, false, false] rfl rfl (by kernel_rfl) (fun _ _ _ h => h) (yields_num (g := gf) (o := 9) (n := s) (by rfl) (.tmp 18) rfl rfl (fun w' hS => (HF.out.below hS HF.out.size).range9)) hHeld ?_ ?_
  rotate_left
  · simp only [Act.put, List.setIfInBounds_toArray, List.set_cons_zero, List.set_cons_succ, i64_w, i32_w]
    rfl
  refine one_ (i := 4) (N := some 11) #[true, true, true, true, true, true, true, false, false, true, true, true, true, false, false] rfl rfl (by kernel_rfl) (by decide) (fun K hK => ?_)
  refine goes_ Try.func30 (by kernel_rfl) rfl #[.pointer (some ⟨gf, 0, none⟩), numV a] (by rfl) rfl rfl (by simp only [List.map_toArray, List.map_cons, List.map_nil]; rfl) ?_
  with_reducible refine (HI1.out _ (HF.out.below hHeld HF.out.size)).mono ?_
  rintro e u1 ⟨rfl, hb_u1⟩
  refine ⟨_, rfl, ?_⟩
  refine hK.out _ _ (hHeld.trans (hb_u1.mono hHeld.size)) (fun hHeld => ?_)
  clear hK K
  refine norm_ (a' := ?_) ?_ ?_
  rotate_left
  · show Act.put _ (some 11) _ = _
    simp only [Act.put, List.setIfInBounds_toArray, List.set_cons_zero, List.set_cons_succ, i64_w, i32_w]
    rfl
  refine one_ (i := 7) (N := some 14) #[true, true, true, true, true, true, true, true, false, true, true, true, true, false, false] rfl rfl (by kernel_rfl) (by decide) (fun K hK => ?_)
  refine goes_ Try.func30 (by kernel_rfl) rfl #[.pointer (some ⟨gf, 0, none⟩), numV b] (by rfl) rfl rfl (by simp only [List.map_toArray, List.map_cons, List.map_nil]; rfl) ?_
  with_reducible refine (HI2.out _ (HF.out.below hHeld HF.out.size)).mono ?_
  rintro e u2 ⟨rfl, hb_u2⟩
  refine ⟨_, rfl, ?_⟩
  refine hK.out _ _ (hHeld.trans (hb_u2.mono hHeld.size)) (fun hHeld => ?_)
  clear hK K
  refine norm_ (a' := ?_) ?_ ?_
  rotate_left
  · show Act.put _ (some 14) _ = _
    simp only [Act.put, List.setIfInBounds_toArray, List.set_cons_zero, List.set_cons_succ, i64_w, i32_w]
    rfl
  refine one_ (i := 8) (N := some 15) #[true, true, true, true, true, true, true, true, true, true, true, true, true, false, false] rfl rfl (by kernel_rfl) (by decide) (fun K hK => ?_)
  refine goes_ Try.func39 (by kernel_rfl) rfl #[.pointer (some ⟨gf, 0, none⟩), numV x, numV y] (by rfl) rfl rfl (by simp only [List.map_toArray, List.map_cons, List.map_nil]; rfl) ?_
  with_reducible refine (HM1.out _ (HF.out.below hHeld HF.out.size)).mono ?_
  rintro e u3 ⟨rfl, hb_u3⟩
  refine ⟨_, rfl, ?_⟩
  refine hK.out _ _ (hHeld.trans (hb_u3.mono hHeld.size)) (fun hHeld => ?_)
  clear hK K
  refine norm_ (a' := ?_) ?_ ?_
  rotate_left
  · show Act.put _ (some 15) _ = _
    simp only [Act.put, List.setIfInBounds_toArray, List.set_cons_zero, List.set_cons_succ, i64_w, i32_w]
    rfl
  refine one_ (i := 13) (N := some 20) #[true, true, true, true, true, true, true, true, true, true, true, true, true, true, false] rfl rfl (by kernel_rfl) (by decide) (fun K hK => ?_)
  refine goes_ Try.func39 (by kernel_rfl) rfl #[.pointer (some ⟨gf, 0, none⟩), numV p, numV s] (by rfl) rfl rfl (by simp only [List.map_toArray, List.map_cons, List.map_nil]; rfl) ?_
  with_reducible refine (HM2.out _ (HF.out.below hHeld HF.out.size)).mono ?_
  rintro e u4 ⟨rfl, hb_u4⟩
  refine ⟨_, rfl, ?_⟩
  refine hK.out _ _ (hHeld.trans (hb_u4.mono hHeld.size)) (fun hHeld => ?_)
  clear hK K
  refine norm_ (a' := ?_) ?_ ?_
  rotate_left
  · show Act.put _ (some 20) _ = _
    simp only [Act.put, List.setIfInBounds_toArray, List.set_cons_zero, List.set_cons_succ, i64_w, i32_w]
    rfl
  refine last_ (i := 14) (N := none) #[true, true, true, true, true, true, true, true, true, true, true, true, true, true, true] rfl rfl (by kernel_rfl) (by decide) (fun K hK => ?_)
  refine skip_num (HR.out.below hHeld HR.out.size) (by rfl) rfl (.tmp 6) (.tmp 20) rfl rfl rfl ?_
  intro u5 hA5 hT5
  refine hK.out _ _ ?_
  clear hK K
  refine done_ (by kernel_rfl) ?_
  replace HA := Aside0.mk (HA.out.on hHeld)
  replace HB2 := Aside0.mk (HB2.out.on hHeld)
  replace HR := Aside0.mk (HR.out.on hHeld)
  replace HF := Aside0.mk (HF.out.on hHeld)
  replace HB := Aside0.mk (bl_on HB.out hHeld HB.out.size)
  replace HS := Aside0.mk (Nat.le_trans HS.out hHeld.size)
  clear hHeld hb_u1 hb_u2 hb_u3 hb_u4
  replace HA := Aside0.mk (HA.out.but hT5 (by omega))
  replace HB2 := Aside0.mk (HB2.out.but hT5 (by omega))
  replace HF := Aside0.mk (HF.out.but hT5 (by have := HG.out; omega))
  replace HR := Aside0.mk hA5
  replace HB := Aside0.mk (bl_but HB.out hT5 HB.out.size (by omega))
  replace HS := Aside0.mk (Nat.le_trans HS.out hT5.size)
  clear hA5 hT5
  go_wp2
  exact bodyPost_ret (v := numV r) (results_nat rfl rfl HR.out) rfl ⟨rfl, HB.out⟩
/-- one bit more of a power -/
theorem mpow_step (a e m i : Nat) (hm : m % 2 = 1) (h1 : 1 < m) : let v := mf m (a ^ (e / 2 ^ (i + 1)))
    (e.testBit i = false → monR m v v = mf m (a ^ (e / 2 ^ i))) ∧ (e.testBit i = true → monR m (monR m v v) (mf m a) = mf m (a ^ (e / 2 ^ i))) := by
  intro v
  have e1 : e / 2 ^ i = (e / 2 ^ (i + 1) + e / 2 ^ (i + 1)) + e / 2 ^ i % 2 := by rw [show 2 ^ (i + 1) = 2 ^ i * 2 from Nat.pow_succ 2 i, ← Nat.div_div_eq_div_mul]; omega
  have e2 : monR m v v = mf m (a ^ (e / 2 ^ (i + 1) + e / 2 ^ (i + 1))) := by
    show monR m (mf m _) (mf m _) = _
    rw [monR_mf m _ _ hm h1, Nat.pow_add a]
  rw [Nat.testBit_eq_decide_div_mod_eq]
  refine ⟨fun h => ?_, fun h => ?_⟩
  · rw [e2]
    have h0 : e / 2 ^ i % 2 = 0 := by have := of_decide_eq_false h; omega
    rw [h0, Nat.add_zero] at e1
    rw [← e1]
  · rw [e2, monR_mf m _ _ hm h1]
    have h0 : e / 2 ^ i % 2 = 1 := of_decide_eq_true h
    rw [h0] at e1
    rw [e1, Nat.pow_succ a]
theorem mpow_top (a e m : Nat) : mf m (a ^ (e / 2 ^ lenN e)) = N256 % m := by
  have h : e < 2 ^ lenN e := by
    unfold lenN
    split
    · rename_i h; rw [h]; decide
    · exact Nat.lt_log2_self
  unfold mf
  rw [Nat.div_eq_of_lt h, Nat.pow_zero, Nat.one_mul]
theorem lenN_256 (e : Nat) (h : e < N256) : lenN e ≤ 256 := lenN_le e 256 (by rw [← n256]; exact h)
theorem dec_len (l : Nat) (h : l ≤ 256) : wrap64 ((l : Int) - 1) = (l : Int) - 1 := by unfold wrap64; omega
set_option maxRecDepth 100000 in
set_option maxHeartbeats 8000000 in
/-- (*field.Field).Pow -/
theorem fpow_calls {gf m : Nat} (a e : Nat) (w : World) (hF : FAt w gf m (turnN m) (N256 % m) (N512 % m)) (hm : m < N256) (hm1 : m % 2 = 1) (h1 : 1 < m) (ha : a < N256) (he : e < N256) :
    Calls Try.prog 25 #[.pointer (some ⟨gf, 0, none⟩), numV a, numV e] w fun e' w' => e' = .returned (numV (a ^ e % m)) ∧ Below w.heap.size w w' := by
  have HG : Aside0 (gf < w.heap.size) := Aside0.mk hF.size
  have h0 : 0 < m := by omega
  obtain ⟨ht1, ht2⟩ := turn_ok m hm1
  have HI1 := Aside0.mk (fun (u : World) (h : FAt u gf m (turnN m) (N256 % m) (N512 % m)) => fin_calls a u h hm h0 ha)
  have HMO : ∀ p q, p < m → q < m → Aside0 (∀ (u : World) (h : FAt u gf m (turnN m) (N256 % m) (N512 % m)), Calls Try.prog 39 #[.pointer (some ⟨gf, 0, none⟩), numV p, numV q] u fun e w' => e = .returned (numV (monR m p q)) ∧ Below u.heap.size u w') :=
    fun p q hp hq => Aside0.mk (fun u h => fmont_calls p q u h hm hm1 h1 ht1 ht2 hp (Nat.lt_trans hq hm))
  have HM1 := HMO (a % m) (N512 % m) (Nat.mod_lt a h0) (Nat.mod_lt _ h0)
  rw [monR_sq m _ hm1 h1] at HM1
  obtain ⟨c, hc⟩ : ∃ c, c = a % m := ⟨_, rfl⟩
  have hr : a ^ e % m = c ^ e % m := by rw [hc, Nat.pow_mod]
  rw [← hc] at HI1 HM1
  rw [hr]
  have HTOP := Aside0.mk (mpow_top c e m)
  have HEND : Aside0 (monR m (mf m (c ^ (e / 2 ^ 0))) 1 = c ^ e % m) := Aside0.mk (by rw [monR_one m _ hm1 h1, Nat.pow_zero, Nat.div_one])
  have HME := HMO (mf m (c ^ (e / 2 ^ 0))) 1 (mf_lt m _ h0) h1
  rw [HEND.out] at HME
  have HSTEP := Aside0.mk (fun i => mpow_step c e m i hm1 h1)
  have HMO := Aside0.mk HMO
  have HLT : Aside0 (∀ p, mf m p < m) := Aside0.mk (fun p => mf_lt m p h0)
  have HLE := Aside0.mk (fun u => len_calls (IsNum.mk he) u)
  have HLL := Aside0.mk (lenN_256 e he)
  have HBT := Aside0.mk (fun (i : Int) u => bit_calls (IsNum.mk he) i u)
  have HOK : Aside0 (1 < m ∧ m % 2 = 1) := Aside0.mk ⟨h1, hm1⟩
  obtain ⟨r, hr2⟩ : ∃ r, r = c ^ e % m := ⟨_, rfl⟩
  rw [← hr2] at HME
  rw [← hr2]
  obtain ⟨x, hx⟩ : ∃ x, x = mf m c := ⟨_, rfl⟩
  rw [← hx] at HM1
  have HX0 := Aside0.mk hx
  generalize lenN e = l at *
  rw [numV_def a, numV_def e]
  clear hm hm1 h1 ha he h0 ht1 ht2 hc hr hr2 hx HEND
  generalize turnN m = t at *
  generalize N256 % m = o at *
  generalize N512 % m = s at *
  go_enter Try.func25, Try.ntmps25
  go_upto_region 1 with (fail)
  refine wp_at (w2 := (World.alloc (World.alloc (World.alloc w (.cells (nw a).toArray 24)) (.cells (nw e).toArray 24)) (.cells (nw 0).toArray 24))) rfl ?_
  obtain ⟨x_0, e_0, h_0, b_0, s_0⟩ := new_num w a
  obtain ⟨x_1, e_1, h_1, b_1, s_1⟩ := new_num x_0 e
  obtain ⟨x_2, e_2, h_2, b_2, s_2⟩ := new_num x_1 0
  rw [e_0, e_1, e_2]
  rw [s_0] at h_1 s_1
  rw [s_1] at h_2 s_2
  have HB : Aside0 (Below w.heap.size w x_2) := Aside0.mk (bl_both (bl_both b_0 b_1) b_2)
  have HA : Aside0 (NAt x_2 (w.heap.size) a) := Aside0.mk ((h_0.on b_1).on b_2)
  have HE : Aside0 (NAt x_2 (w.heap.size + 1) e) := Aside0.mk (h_1.on b_2)
  have HR : Aside0 (NAt x_2 (w.heap.size + 1 + 1) 0) := Aside0.mk h_2
  have HS : Aside0 (w.heap.size + 1 + 1 + 1 ≤ x_2.heap.size) := Aside0.mk (Nat.le_of_eq s_2.symm)
  have HF := Aside0.mk (hF.on HB.out)
  clear e_0 h_0 b_0 s_0 e_1 h_1 b_1 s_1 e_2 h_2 b_2 s_2 hF
  obtain ⟨w1, hw_⟩ : ∃ x, x = x_2 := ⟨_, rfl⟩
  subst hw_
  clear x_0 x_1
  refine start_ (n := 17) (S := fun w' => Below w1.heap.size w1 w') (ds := [16]) #[false, false, false, false, false, false, false, false, false, false, false, false, false, false, false, false, false] (by kernel_rfl) rfl rfl ((Below.refl _ _).drew) (fun hHeld => ?_)
  refine pure_ (i := 0) (N := some 10) (v := ?_) (a' := ?_) #[true, false, false, false, false, false, false, false, false, false, false, false, false, false, false, false, false] rfl rfl (by kernel_rfl) (fun _ _ _ h => h) (Or.inl ⟨by rfl, ?_⟩) ?_ ?_
  rotate_left
  · intro w'
    go_simp
    with_reducible rfl
  rotate_left
  · simp only [Act.put, List.setIfInBounds_toArray, List.set_cons_zero, List.set_cons_succ, i64_w, i32_w]
    rfl
  refine pure_ (i := 1) (N := some 11) (v := ?_) (a' := ?_) #[true, true, false, false, false, false, false, false, false, false, false, false, false, false, false, false, false] rfl rfl (by kernel_rfl) (fun _ _ _ h => h) (Or.inl ⟨by rfl, ?_⟩) ?_ ?_
  rotate_left
  · intro w'
    go_simp
    with_reducible rfl
  rotate_left
  · simp only [Act.put, List.setIfInBounds_toArray, List.set_cons_zero, List.set_cons_succ, i64_w, i32_w]
    rfl
  refine pure_ (i := 4) (N := some 14) (v := ?_) (a' := ?_) #[true, true, false, false, true, false, false, false, false, false, false, false, false, false, false, false, false] rfl rfl (by kernel_rfl) (fun _ _ _ h => h) (Or.inl ⟨by rfl, ?_⟩) ?_ ?_
  rotate_left
  · intro w'
    go_simp
    with_reducible rfl
  rotate_left
  · simp only [Act.put, List.setIfInBounds_toArray, List.set_cons_zero, List.set_cons_succ, i64_w, i32_w]
    rfl
  refine pure_ (i := 5) (N := some 15) (v := ?_) (a' := ?_) #[true, true, false, false, true, true, false, false, false, false, false, false, false, false, false, false, false] rfl rfl (by kernel_rfl) (fun _ _ _ h => h) (Or.inl ⟨by rfl, ?_⟩) ?_ ?_
  rotate_left
  · intro w'
    go_simp
    with_reducible rfl
  rotate_left
  · simp only [Act.put, List.setIfInBounds_toArray, List.set_cons_zero, List.set_cons_succ, i64_w, i32_w]
    rfl
  refine pure_ (i := 6) (N := some 16) (v := ?_) (a' := ?_) #[true, true, false, false, true, true, true, false, false, false, false, false, false, false, false, false, false] rfl rfl (by kernel_rfl) (fun _ _ _ h => h) (Or.inl ⟨by rfl, ?_⟩) ?_ ?_
  rotate_left
  · intro w'
    go_simp
    with_reducible rfl
  rotate_left
  · simp only [Act.put, List.setIfInBounds_toArray, List.set_cons_zero, List.set_cons_succ, i64_w, i32_w]
    rfl
  refine pure_ (i := 9) (N := some 19) (v := ?_) (a' := ?_) #[true, true, false, false, true, true, true, false, false, true, false, false, false, false, false, false, false] rfl rfl (by kernel_rfl) (fun _ _ _ h => h) (Or.inl ⟨by rfl, ?_⟩) ?_ ?_
  rotate_left
  · intro w'
    go_simp
    with_reducible rfl
  rotate_left
  · simp only [Act.put, List.setIfInBounds_toArray, List.set_cons_zero, List.set_cons_succ, i64_w, i32_w]
    rfl
  refine pure_ (i := 10) (N := some 20) (v := ?_) (a' := ?_) #[true, true, false, false, true, true, true, false, false, true, true, false, false, false, false, false, false] rfl rfl (by kernel_rfl) (fun _ _ _ h => h) (Or.inl ⟨by rfl, ?_⟩) ?_ ?_
  rotate_left
  · intro w'
    go_simp
    with_reducible rfl
  rotate_left
  · simp only [Act.put, List.setIfInBounds_toArray, List.set_cons_zero, List.set_cons_succ, i64_w, i32_w]
    rfl
  refine pure_ (i := 11) (N := some 21) (v := ?_) (a' := ?_) #[true, true, false, false, true, true, true, false, false, true, true, true, false, false, false, false, false] rfl rfl (by kernel_rfl) (fun _ _ _ h => h) (Or.inl ⟨by rfl, ?_⟩) ?_ ?_
  rotate_left
  · intro w'
    go_simp
    with_reducible rfl
  rotate_left
  · simp only [Act.put, List.setIfInBounds_toArray, List.set_cons_zero, List.set_cons_succ, i64_w, i32_w]
    rfl
  refine take_ (i := 2) (N := some 12) (a' := ?_) #[true, true, true, false, true, true, true, false, false, true, true, true, false, false, false, false, false] rfl rfl (by kernel_rfl) (fun _ _ _ h => h) (yields_num (g := w.heap.size) (o := 0) (n := a) (by rfl) (.tmp 4) rfl rfl (fun w' hS => (HA.out.below hS HA.out.size).range)) hHeld ?_ ?_
  rotate_left
  · simp only [Act.put, List.setIfInBounds_toArray, List.set_cons_zero, List.set_cons_succ, i64_w, i32_w]
    rfl
  refine take_ (i := 7) (N := some 17) (a' := ?_) #[true, true, true, false, true, true, true, true, false, true, true, true, false, false, false, false, false] rfl rfl (by kernel_rfl) (fun _ _ _ h => h) (yields_num (g := gf) (o := 9) (n := s) (by rfl) (.tmp 16) rfl rfl (fun w' hS => (HF.out.below hS HF.out.size).range9)) hHeld ?_ ?_
  rotate_left
  · simp only [Act.put, List.setIfInBounds_toArray, List.set_cons_zero, List.set_cons_succ, i64_w, i32_w]
    rfl
  refine take_ (i := 12) (N := some 22) (a' := ?_) #[true, true, true, false, true, true, true, true, false, true, true, true, true, false, false, false, false] rfl rfl (by kernel_rfl) (fun _ _ _ h => h) (yields_num (g := gf) (o := 5) (n := o) (by rfl) (.tmp 21) rfl rfl (fun w' hS => (HF.out.below hS HF.out.size).range5)) hHeld ?_ ?_
  rotate_left
  · simp only [Act.put, List.setIfInBounds_toArray, List.set_cons_zero, List.set_cons_succ, i64_w, i32_w]
    rfl
  refine join_ (σ := Nat × Nat) 2 #[true, true, true, true, true, true, true, true, true, true, true, true, true, true, true, false, false] (fun s => [(7, .pointer (some ⟨s.1, 0, none⟩)), (8, .pointer (some ⟨s.2, 0, none⟩)), (13, numV c), (18, numV x)]) (fun s w' => Below w1.heap.size w1 w' ∧ NAt w' (s.1) 0 ∧ w1.heap.size ≤ s.1 ∧ NAt w' (s.2) 0 ∧ w1.heap.size ≤ s.2 ∧ s.1 ≠ s.2) ?_ ?_
  rotate_left
  · intro hCont
    refine three_ (i := 3) (j := 13) (k := 14) (Ni := some 13) (Nj := some 7) (Nk := some 8) #[true, true, true, true, true, true, true, true, false, true, true, true, true, false, false, false, false] #[true, true, true, false, true, true, true, true, false, true, true, true, true, true, false, false, false] #[true, true, true, false, true, true, true, true, false, true, true, true, true, false, true, false, false] rfl rfl rfl rfl rfl rfl (by kernel_rfl) (by decide) (by decide) (by decide) (fun K hK => ?_) (fun K hK => ?_) (fun K hK => ?_)
    · skip
      refine goes_ Try.func30 (by kernel_rfl) rfl #[.pointer (some ⟨gf, 0, none⟩), numV a] (by rfl) rfl rfl (by simp only [List.map_toArray, List.map_cons, List.map_nil]; rfl) ?_
      with_reducible refine (HI1.out _ (HF.out.below hHeld HF.out.size)).mono ?_
      rintro e1 u1 ⟨rfl, hb_u1⟩
      refine ⟨_, rfl, ?_⟩
      refine hK.out _ _ (bl_on hHeld hb_u1 hHeld.size) (fun hHeld => ?_)
      clear hK K
      refine norm_ (a' := ?_) ?_ ?_
      rotate_left
      · show Act.put _ (some 13) _ = _
        simp only [Act.put, List.setIfInBounds_toArray, List.set_cons_zero, List.set_cons_succ, i64_w, i32_w]
        rfl
      refine three_ (i := 8) (j := 13) (k := 14) (Ni := some 18) (Nj := some 7) (Nk := some 8) #[true, true, true, true, true, true, true, true, true, true, true, true, true, false, false, false, false] #[true, true, true, true, true, true, true, true, false, true, true, true, true, true, false, false, false] #[true, true, true, true, true, true, true, true, false, true, true, true, true, false, true, false, false] rfl rfl rfl rfl rfl rfl (by kernel_rfl) (by decide) (by decide) (by decide) (fun K hK => ?_) (fun K hK => ?_) (fun K hK => ?_)
      · skip
        refine goes_ Try.func39 (by kernel_rfl) rfl #[.pointer (some ⟨gf, 0, none⟩), numV c, numV s] (by rfl) rfl rfl (by simp only [List.map_toArray, List.map_cons, List.map_nil]; rfl) ?_
        with_reducible refine (HM1.out _ (HF.out.below hHeld HF.out.size)).mono ?_
        rintro e1 u2 ⟨rfl, hb_u2⟩
        refine ⟨_, rfl, ?_⟩
        refine hK.out _ _ (bl_on hHeld hb_u2 hHeld.size) (fun hHeld => ?_)
        clear hK K
        refine norm_ (a' := ?_) ?_ ?_
        rotate_left
        · show Act.put _ (some 18) _ = _
          simp only [Act.put, List.setIfInBounds_toArray, List.set_cons_zero, List.set_cons_succ, i64_w, i32_w]
          rfl
        refine two_ (i := 13) (j := 14) (Ni := some 7) (Nj := some 8) #[true, true, true, true, true, true, true, true, true, true, true, true, true, true, false, false, false] #[true, true, true, true, true, true, true, true, true, true, true, true, true, false, true, false, false] rfl rfl rfl rfl (by kernel_rfl) (by decide) (by decide) (fun K hK => ?_) (fun K hK => ?_)
        · skip
          refine value_ (w1 := ?_) (v := ?_) (by rfl) rfl ?_ ?_
          rotate_left 2
          · go_simp
            constructor
            · rfl
            · rfl
          have hzgX : NAt (World.alloc u2 (.cells (nw 0).toArray 24)) (u2.heap.size) 0 := by have h_ := Row.new u2 24 (nw 0); first | exact h_ | (simp only [alloc_sz] at h_; exact h_) | omega
          have hsgX : w1.heap.size ≤ u2.heap.size := by have h_ := hHeld.size; first | exact h_ | (simp only [alloc_sz] at h_; exact h_) | omega
          refine hK.out _ _ (below_alloc hHeld _) (fun hHeld => ?_)
          clear hK K
          refine norm_ (a' := ?_) ?_ ?_
          rotate_left
          · show Act.put _ (some 7) _ = _
            simp only [Act.put, List.setIfInBounds_toArray, List.set_cons_zero, List.set_cons_succ, i64_w, i32_w]
            rfl
          refine one_ (i := 14) (N := some 8) #[true, true, true, true, true, true, true, true, true, true, true, true, true, true, true, false, false] rfl rfl (by kernel_rfl) (by decide) (fun K hK => ?_)
          refine value_ (w1 := ?_) (v := ?_) (by rfl) rfl ?_ ?_
          rotate_left 2
          · go_simp
            constructor
            · rfl
            · rfl
          have hzgO : NAt (World.alloc (World.alloc u2 (.cells (nw 0).toArray 24)) (.cells (nw 0).toArray 24)) (u2.heap.size + 1) 0 := by have h_ := Row.new (World.alloc u2 (.cells (nw 0).toArray 24)) 24 (nw 0); first | exact h_ | (simp only [alloc_sz] at h_; exact h_) | omega
          have hsgO : w1.heap.size ≤ u2.heap.size + 1 := by have h_ := hHeld.size; first | exact h_ | (simp only [alloc_sz] at h_; exact h_) | omega
          have hngXgO : u2.heap.size < u2.heap.size + 1 := by have h_ := hzgX.size; first | exact h_ | (simp only [alloc_sz] at h_; exact h_) | omega
          have hzogX := hzgX.on (below_alloc (Below.refl _ (World.alloc u2 (.cells (nw 0).toArray 24))) (.cells (nw 0).toArray 24))
          clear hzgX
          have hzgX := hzogX
          clear hzogX
          refine hK.out _ _ (below_alloc hHeld _) (fun hHeld => ?_)
          clear hK K
          refine norm_ (a' := ?_) ?_ ?_
          rotate_left
          · show Act.put _ (some 8) _ = _
            simp only [Act.put, List.setIfInBounds_toArray, List.set_cons_zero, List.set_cons_succ, i64_w, i32_w]
            rfl
          exact norm_ (by simp only [putAll, Act.put, List.setIfInBounds_toArray, List.set_cons_zero, List.set_cons_succ]) (hCont (u2.heap.size, u2.heap.size + 1) _ ⟨hHeld, hzgX, hsgX, hzgO, hsgO, Nat.ne_of_lt hngXgO⟩)
        · skip
          refine value_ (w1 := ?_) (v := ?_) (by rfl) rfl ?_ ?_
          rotate_left 2
          · go_simp
            constructor
            · rfl
            · rfl
          have hzgO : NAt (World.alloc u2 (.cells (nw 0).toArray 24)) (u2.heap.size) 0 := by have h_ := Row.new u2 24 (nw 0); first | exact h_ | (simp only [alloc_sz] at h_; exact h_) | omega
          have hsgO : w1.heap.size ≤ u2.heap.size := by have h_ := hHeld.size; first | exact h_ | (simp only [alloc_sz] at h_; exact h_) | omega
          refine hK.out _ _ (below_alloc hHeld _) (fun hHeld => ?_)
          clear hK K
          refine norm_ (a' := ?_) ?_ ?_
          rotate_left
          · show Act.put _ (some 8) _ = _
            simp only [Act.put, List.setIfInBounds_toArray, List.set_cons_zero, List.set_cons_succ, i64_w, i32_w]
            rfl
          refine one_ (i := 13) (N := some 7) #[true, true, true, true, true, true, true, true, true, true, true, true, true, true, true, false, false] rfl rfl (by kernel_rfl) (by decide) (fun K hK => ?_)
          refine value_ (w1 := ?_) (v := ?_) (by rfl) rfl ?_ ?_
          rotate_left 2
          · go_simp
            constructor
            · rfl
            · rfl
          have hzgX : NAt (World.alloc (World.alloc u2 (.cells (nw 0).toArray 24)) (.cells (nw 0).toArray 24)) (u2.heap.size + 1) 0 := by have h_ := Row.new (World.alloc u2 (.cells (nw 0).toArray 24)) 24 (nw 0); first | exact h_ | (simp only [alloc_sz] at h_; exact h_) | omega
          have hsgX : w1.heap.size ≤ u2.heap.size + 1 := by have h_ := hHeld.size; first | exact h_ | (simp only [alloc_sz] at h_; exact h_) | omega
          have hngOgX : u2.heap.size < u2.heap.size + 1 := by have h_ := hzgO.size; first | exact h_ | (simp only [alloc_sz] at h_; exact h_) | omega
          have hzogO := hzgO.on (below_alloc (Below.refl _ (World.alloc u2 (.cells (nw 0).toArray 24))) (.cells (nw 0).toArray 24))
          clear hzgO
          have hzgO := hzogO
          clear hzogO
          refine hK.out _ _ (below_alloc hHeld _) (fun hHeld => ?_)
          clear hK K
          refine norm_ (a' := ?_) ?_ ?_
          rotate_left
          · show Act.put _ (some 7) _ = _
            simp only [Act.put, List.setIfInBounds_toArray, List.set_cons_zero, List.set_cons_succ, i64_w, i32_w]
            rfl
          exact norm_ (by simp only [putAll, Act.put, List.setIfInBounds_toArray, List.set_cons_zero, List.set_cons_succ]) (hCont (u2.heap.size + 1, u2.heap.size) _ ⟨hHeld, hzgX, hsgX, hzgO, hsgO, Nat.ne_of_gt hngOgX⟩)
      · skip
        refine value_ (w1 := ?_) (v := ?_) (by rfl) rfl ?_ ?_
        rotate_left 2
        · go_simp
          constructor
          · rfl
          · rfl
        have hzgX : NAt (World.alloc u1 (.cells (nw 0).toArray 24)) (u1.heap.size) 0 := by have h_ := Row.new u1 24 (nw 0); first | exact h_ | (simp only [alloc_sz] at h_; exact h_) | omega
        have hsgX : w1.heap.size ≤ u1.heap.size := by have h_ := hHeld.size; first | exact h_ | (simp only [alloc_sz] at h_; exact h_) | omega
        refine hK.out _ _ (below_alloc hHeld _) (fun hHeld => ?_)
        clear hK K
        refine norm_ (a' := ?_) ?_ ?_
        rotate_left
        · show Act.put _ (some 7) _ = _
          simp only [Act.put, List.setIfInBounds_toArray, List.set_cons_zero, List.set_cons_succ, i64_w, i32_w]
          rfl
        refine two_ (i := 8) (j := 14) (Ni := some 18) (Nj := some 8) #[true, true, true, true, true, true, true, true, true, true, true, true, true, true, false, false, false] #[true, true, true, true, true, true, true, true, false, true, true, true, true, true, true, false, false] rfl rfl rfl rfl (by kernel_rfl) (by decide) (by decide) (fun K hK => ?_) (fun K hK => ?_)
        · skip
          refine goes_ Try.func39 (by kernel_rfl) rfl #[.pointer (some ⟨gf, 0, none⟩), numV c, numV s] (by rfl) rfl rfl (by simp only [List.map_toArray, List.map_cons, List.map_nil]; rfl) ?_
          with_reducible refine (HM1.out _ (HF.out.below hHeld HF.out.size)).mono ?_
          rintro e1 u2 ⟨rfl, hb_u2⟩
          refine ⟨_, rfl, ?_⟩
          have hzogX := hzgX.on hb_u2
          clear hzgX
          have hzgX := hzogX
          clear hzogX
          refine hK.out _ _ (bl_on hHeld hb_u2 hHeld.size) (fun hHeld => ?_)
          clear hK K
          refine norm_ (a' := ?_) ?_ ?_
          rotate_left
          · show Act.put _ (some 18) _ = _
            simp only [Act.put, List.setIfInBounds_toArray, List.set_cons_zero, List.set_cons_succ, i64_w, i32_w]
            rfl
          refine one_ (i := 14) (N := some 8) #[true, true, true, true, true, true, true, true, true, true, true, true, true, true, true, false, false] rfl rfl (by kernel_rfl) (by decide) (fun K hK => ?_)
          refine value_ (w1 := ?_) (v := ?_) (by rfl) rfl ?_ ?_
          rotate_left 2
          · go_simp
            constructor
            · rfl
            · rfl
          have hzgO : NAt (World.alloc u2 (.cells (nw 0).toArray 24)) (u2.heap.size) 0 := by have h_ := Row.new u2 24 (nw 0); first | exact h_ | (simp only [alloc_sz] at h_; exact h_) | omega
          have hsgO : w1.heap.size ≤ u2.heap.size := by have h_ := hHeld.size; first | exact h_ | (simp only [alloc_sz] at h_; exact h_) | omega
          have hngXgO : u1.heap.size < u2.heap.size := by have h_ := hzgX.size; first | exact h_ | (simp only [alloc_sz] at h_; exact h_) | omega
          have hzogX := hzgX.on (below_alloc (Below.refl _ u2) (.cells (nw 0).toArray 24))
          clear hzgX
          have hzgX := hzogX
          clear hzogX
          refine hK.out _ _ (below_alloc hHeld _) (fun hHeld => ?_)
          clear hK K
          refine norm_ (a' := ?_) ?_ ?_
          rotate_left
          · show Act.put _ (some 8) _ = _
            simp only [Act.put, List.setIfInBounds_toArray, List.set_cons_zero, List.set_cons_succ, i64_w, i32_w]
            rfl
          exact norm_ (by simp only [putAll, Act.put, List.setIfInBounds_toArray, List.set_cons_zero, List.set_cons_succ]) (hCont (u1.heap.size, u2.heap.size) _ ⟨hHeld, hzgX, hsgX, hzgO, hsgO, Nat.ne_of_lt hngXgO⟩)
        · skip
          refine value_ (w1 := ?_) (v := ?_) (by rfl) rfl ?_ ?_
          rotate_left 2
          · go_simp
            constructor
            · rfl
            · rfl
          have hzgO : NAt (World.alloc (World.alloc u1 (.cells (nw 0).toArray 24)) (.cells (nw 0).toArray 24)) (u1.heap.size + 1) 0 := by have h_ := Row.new (World.alloc u1 (.cells (nw 0).toArray 24)) 24 (nw 0); first | exact h_ | (simp only [alloc_sz] at h_; exact h_) | omega
          have hsgO : w1.heap.size ≤ u1.heap.size + 1 := by have h_ := hHeld.size; first | exact h_ | (simp only [alloc_sz] at h_; exact h_) | omega
          have hngXgO : u1.heap.size < u1.heap.size + 1 := by have h_ := hzgX.size; first | exact h_ | (simp only [alloc_sz] at h_; exact h_) | omega
          have hzogX := hzgX.on (below_alloc (Below.refl _ (World.alloc u1 (.cells (nw 0).toArray 24))) (.cells (nw 0).toArray 24))
          clear hzgX
          have hzgX := hzogX
          clear hzogX
          refine hK.out _ _ (below_alloc hHeld _) (fun hHeld => ?_)
          clear hK K
          refine norm_ (a' := ?_) ?_ ?_
          rotate_left
          · show Act.put _ (some 8) _ = _
            simp only [Act.put, List.setIfInBounds_toArray, List.set_cons_zero, List.set_cons_succ, i64_w, i32_w]
            rfl
          refine one_ (i := 8) (N := some 18) #[true, true, true, true, true, true, true, true, true, true, true, true, true, true, true, false, false] rfl rfl (by kernel_rfl) (by decide) (fun K hK => ?_)
          refine goes_ Try.func39 (by kernel_rfl) rfl #[.pointer (some ⟨gf, 0, none⟩), numV c, numV s] (by rfl) rfl rfl (by simp only [List.map_toArray, List.map_cons, List.map_nil]; rfl) ?_
          with_reducible refine (HM1.out _ (HF.out.below hHeld HF.out.size)).mono ?_
          rintro e1 u2 ⟨rfl, hb_u2⟩
          refine ⟨_, rfl, ?_⟩
          have hzogX := hzgX.on hb_u2
          clear hzgX
          have hzgX := hzogX
          clear hzogX
          have hzogO := hzgO.on hb_u2
          clear hzgO
          have hzgO := hzogO
          clear hzogO
          refine hK.out _ _ (bl_on hHeld hb_u2 hHeld.size) (fun hHeld => ?_)
          clear hK K
          refine norm_ (a' := ?_) ?_ ?_
          rotate_left
          · show Act.put _ (some 18) _ = _
            simp only [Act.put, List.setIfInBounds_toArray, List.set_cons_zero, List.set_cons_succ, i64_w, i32_w]
            rfl
          exact norm_ (by simp only [putAll, Act.put, List.setIfInBounds_toArray, List.set_cons_zero, List.set_cons_succ]) (hCont (u1.heap.size, u1.heap.size + 1) _ ⟨hHeld, hzgX, hsgX, hzgO, hsgO, Nat.ne_of_lt hngXgO⟩)
      · skip
        refine value_ (w1 := ?_) (v := ?_) (by rfl) rfl ?_ ?_
        rotate_left 2
        · go_simp
          constructor
          · rfl
          · rfl
        have hzgO : NAt (World.alloc u1 (.cells (nw 0).toArray 24)) (u1.heap.size) 0 := by have h_ := Row.new u1 24 (nw 0); first | exact h_ | (simp only [alloc_sz] at h_; exact h_) | omega
        have hsgO : w1.heap.size ≤ u1.heap.size := by have h_ := hHeld.size; first | exact h_ | (simp only [alloc_sz] at h_; exact h_) | omega
        refine hK.out _ _ (below_alloc hHeld _) (fun hHeld => ?_)
        clear hK K
        refine norm_ (a' := ?_) ?_ ?_
        rotate_left
        · show Act.put _ (some 8) _ = _
          simp only [Act.put, List.setIfInBounds_toArray, List.set_cons_zero, List.set_cons_succ, i64_w, i32_w]
          rfl
        refine two_ (i := 8) (j := 13) (Ni := some 18) (Nj := some 7) #[true, true, true, true, true, true, true, true, true, true, true, true, true, false, true, false, false] #[true, true, true, true, true, true, true, true, false, true, true, true, true, true, true, false, false] rfl rfl rfl rfl (by kernel_rfl) (by decide) (by decide) (fun K hK => ?_) (fun K hK => ?_)
        · skip
          refine goes_ Try.func39 (by kernel_rfl) rfl #[.pointer (some ⟨gf, 0, none⟩), numV c, numV s] (by rfl) rfl rfl (by simp only [List.map_toArray, List.map_cons, List.map_nil]; rfl) ?_
          with_reducible refine (HM1.out _ (HF.out.below hHeld HF.out.size)).mono ?_
          rintro e1 u2 ⟨rfl, hb_u2⟩
          refine ⟨_, rfl, ?_⟩
          have hzogO := hzgO.on hb_u2
          clear hzgO
          have hzgO := hzogO
          clear hzogO
          refine hK.out _ _ (bl_on hHeld hb_u2 hHeld.size) (fun hHeld => ?_)
          clear hK K
          refine norm_ (a' := ?_) ?_ ?_
          rotate_left
          · show Act.put _ (some 18) _ = _
            simp only [Act.put, List.setIfInBounds_toArray, List.set_cons_zero, List.set_cons_succ, i64_w, i32_w]
            rfl
          refine one_ (i := 13) (N := some 7) #[true, true, true, true, true, true, true, true, true, true, true, true, true, true, true, false, false] rfl rfl (by kernel_rfl) (by decide) (fun K hK => ?_)
          refine value_ (w1 := ?_) (v := ?_) (by rfl) rfl ?_ ?_
          rotate_left 2
          · go_simp
            constructor
            · rfl
            · rfl
          have hzgX : NAt (World.alloc u2 (.cells (nw 0).toArray 24)) (u2.heap.size) 0 := by have h_ := Row.new u2 24 (nw 0); first | exact h_ | (simp only [alloc_sz] at h_; exact h_) | omega
          have hsgX : w1.heap.size ≤ u2.heap.size := by have h_ := hHeld.size; first | exact h_ | (simp only [alloc_sz] at h_; exact h_) | omega
          have hngOgX : u1.heap.size < u2.heap.size := by have h_ := hzgO.size; first | exact h_ | (simp only [alloc_sz] at h_; exact h_) | omega
          have hzogO := hzgO.on (below_alloc (Below.refl _ u2) (.cells (nw 0).toArray 24))
          clear hzgO
          have hzgO := hzogO
          clear hzogO
          refine hK.out _ _ (below_alloc hHeld _) (fun hHeld => ?_)
          clear hK K
          refine norm_ (a' := ?_) ?_ ?_
          rotate_left
          · show Act.put _ (some 7) _ = _
            simp only [Act.put, List.setIfInBounds_toArray, List.set_cons_zero, List.set_cons_succ, i64_w, i32_w]
            rfl
          exact norm_ (by simp only [putAll, Act.put, List.setIfInBounds_toArray, List.set_cons_zero, List.set_cons_succ]) (hCont (u2.heap.size, u1.heap.size) _ ⟨hHeld, hzgX, hsgX, hzgO, hsgO, Nat.ne_of_gt hngOgX⟩)
        · skip
          refine value_ (w1 := ?_) (v := ?_) (by rfl) rfl ?_ ?_
          rotate_left 2
          · go_simp
            constructor
            · rfl
            · rfl
          have hzgX : NAt (World.alloc (World.alloc u1 (.cells (nw 0).toArray 24)) (.cells (nw 0).toArray 24)) (u1.heap.size + 1) 0 := by have h_ := Row.new (World.alloc u1 (.cells (nw 0).toArray 24)) 24 (nw 0); first | exact h_ | (simp only [alloc_sz] at h_; exact h_) | omega
          have hsgX : w1.heap.size ≤ u1.heap.size + 1 := by have h_ := hHeld.size; first | exact h_ | (simp only [alloc_sz] at h_; exact h_) | omega
          have hngOgX : u1.heap.size < u1.heap.size + 1 := by have h_ := hzgO.size; first | exact h_ | (simp only [alloc_sz] at h_; exact h_) | omega
          have hzogO := hzgO.on (below_alloc (Below.refl _ (World.alloc u1 (.cells (nw 0).toArray 24))) (.cells (nw 0).toArray 24))
          clear hzgO
          have hzgO := hzogO
          clear hzogO
          refine hK.out _ _ (below_alloc hHeld _) (fun hHeld => ?_)
          clear hK K
          refine norm_ (a' := ?_) ?_ ?_
          rotate_left
          · show Act.put _ (some 7) _ = _
            simp only [Act.put, List.setIfInBounds_toArray, List.set_cons_zero, List.set_cons_succ, i64_w, i32_w]
            rfl
          refine one_ (i := 8) (N := some 18) #[true, true, true, true, true, true, true, true, true, true, true, true, true, true, true, false, false] rfl rfl (by kernel_rfl) (by decide) (fun K hK => ?_)
          refine goes_ Try.func39 (by kernel_rfl) rfl #[.pointer (some ⟨gf, 0, none⟩), numV c, numV s] (by rfl) rfl rfl (by simp only [List.map_toArray, List.map_cons, List.map_nil]; rfl) ?_
          with_reducible refine (HM1.out _ (HF.out.below hHeld HF.out.size)).mono ?_
          rintro e1 u2 ⟨rfl, hb_u2⟩
          refine ⟨_, rfl, ?_⟩
          have hzogO := hzgO.on hb_u2
          clear hzgO
          have hzgO := hzogO
          clear hzogO
          have hzogX := hzgX.on hb_u2
          clear hzgX
          have hzgX := hzogX
          clear hzogX
          refine hK.out _ _ (bl_on hHeld hb_u2 hHeld.size) (fun hHeld => ?_)
          clear hK K
          refine norm_ (a' := ?_) ?_ ?_
          rotate_left
          · show Act.put _ (some 18) _ = _
            simp only [Act.put, List.setIfInBounds_toArray, List.set_cons_zero, List.set_cons_succ, i64_w, i32_w]
            rfl
          exact norm_ (by simp only [putAll, Act.put, List.setIfInBounds_toArray, List.set_cons_zero, List.set_cons_succ]) (hCont (u1.heap.size + 1, u1.heap.size) _ ⟨hHeld, hzgX, hsgX, hzgO, hsgO, Nat.ne_of_gt hngOgX⟩)
    · skip
      refine value_ (w1 := ?_) (v := ?_) (by rfl) rfl ?_ ?_
      rotate_left 2
      · go_simp
        constructor
        · rfl
        · rfl
      have hzgX : NAt (World.alloc (World.drew w1) (.cells (nw 0).toArray 24)) (w1.heap.size) 0 := by have h_ := Row.new (World.drew w1) 24 (nw 0); first | exact h_ | (simp only [alloc_sz] at h_; exact h_) | omega
      have hsgX : w1.heap.size ≤ w1.heap.size := by have h_ := hHeld.size; first | exact h_ | (simp only [alloc_sz] at h_; exact h_) | omega
      refine hK.out _ _ (below_alloc hHeld _) (fun hHeld => ?_)
      clear hK K
      refine norm_ (a' := ?_) ?_ ?_
      rotate_left
      · show Act.put _ (some 7) _ = _
        simp only [Act.put, List.setIfInBounds_toArray, List.set_cons_zero, List.set_cons_succ, i64_w, i32_w]
        rfl
      refine two_ (i := 3) (j := 14) (Ni := some 13) (Nj := some 8) #[true, true, true, true, true, true, true, true, false, true, true, true, true, true, false, false, false] #[true, true, true, false, true, true, true, true, false, true, true, true, true, true, true, false, false] rfl rfl rfl rfl (by kernel_rfl) (by decide) (by decide) (fun K hK => ?_) (fun K hK => ?_)
      · skip
        refine goes_ Try.func30 (by kernel_rfl) rfl #[.pointer (some ⟨gf, 0, none⟩), numV a] (by rfl) rfl rfl (by simp only [List.map_toArray, List.map_cons, List.map_nil]; rfl) ?_
        with_reducible refine (HI1.out _ (HF.out.below hHeld HF.out.size)).mono ?_
        rintro e1 u1 ⟨rfl, hb_u1⟩
        refine ⟨_, rfl, ?_⟩
        have hzogX := hzgX.on hb_u1
        clear hzgX
        have hzgX := hzogX
        clear hzogX
        refine hK.out _ _ (bl_on hHeld hb_u1 hHeld.size) (fun hHeld => ?_)
        clear hK K
        refine norm_ (a' := ?_) ?_ ?_
        rotate_left
        · show Act.put _ (some 13) _ = _
          simp only [Act.put, List.setIfInBounds_toArray, List.set_cons_zero, List.set_cons_succ, i64_w, i32_w]
          rfl
        refine two_ (i := 8) (j := 14) (Ni := some 18) (Nj := some 8) #[true, true, true, true, true, true, true, true, true, true, true, true, true, true, false, false, false] #[true, true, true, true, true, true, true, true, false, true, true, true, true, true, true, false, false] rfl rfl rfl rfl (by kernel_rfl) (by decide) (by decide) (fun K hK => ?_) (fun K hK => ?_)
        · skip
          refine goes_ Try.func39 (by kernel_rfl) rfl #[.pointer (some ⟨gf, 0, none⟩), numV c, numV s] (by rfl) rfl rfl (by simp only [List.map_toArray, List.map_cons, List.map_nil]; rfl) ?_
          with_reducible refine (HM1.out _ (HF.out.below hHeld HF.out.size)).mono ?_
          rintro e1 u2 ⟨rfl, hb_u2⟩
          refine ⟨_, rfl, ?_⟩
          have hzogX := hzgX.on hb_u2
          clear hzgX
          have hzgX := hzogX
          clear hzogX
          refine hK.out _ _ (bl_on hHeld hb_u2 hHeld.size) (fun hHeld => ?_)
          clear hK K
          refine norm_ (a' := ?_) ?_ ?_
          rotate_left
          · show Act.put _ (some 18) _ = _
            simp only [Act.put, List.setIfInBounds_toArray, List.set_cons_zero, List.set_cons_succ, i64_w, i32_w]
            rfl
          refine one_ (i := 14) (N := some 8) #[true, true, true, true, true, true, true, true, true, true, true, true, true, true, true, false, false] rfl rfl (by kernel_rfl) (by decide) (fun K hK => ?_)
          refine value_ (w1 := ?_) (v := ?_) (by rfl) rfl ?_ ?_
          rotate_left 2
          · go_simp
            constructor
            · rfl
            · rfl
          have hzgO : NAt (World.alloc u2 (.cells (nw 0).toArray 24)) (u2.heap.size) 0 := by have h_ := Row.new u2 24 (nw 0); first | exact h_ | (simp only [alloc_sz] at h_; exact h_) | omega
          have hsgO : w1.heap.size ≤ u2.heap.size := by have h_ := hHeld.size; first | exact h_ | (simp only [alloc_sz] at h_; exact h_) | omega
          have hngXgO : w1.heap.size < u2.heap.size := by have h_ := hzgX.size; first | exact h_ | (simp only [alloc_sz] at h_; exact h_) | omega
          have hzogX := hzgX.on (below_alloc (Below.refl _ u2) (.cells (nw 0).toArray 24))
          clear hzgX
          have hzgX := hzogX
          clear hzogX
          refine hK.out _ _ (below_alloc hHeld _) (fun hHeld => ?_)
          clear hK K
          refine norm_ (a' := ?_) ?_ ?_
          rotate_left
          · show Act.put _ (some 8) _ = _
            simp only [Act.put, List.setIfInBounds_toArray, List.set_cons_zero, List.set_cons_succ, i64_w, i32_w]
            rfl
          exact norm_ (by simp only [putAll, Act.put, List.setIfInBounds_toArray, List.set_cons_zero, List.set_cons_succ]) (hCont (w1.heap.size, u2.heap.size) _ ⟨hHeld, hzgX, hsgX, hzgO, hsgO, Nat.ne_of_lt hngXgO⟩)
        · skip
          refine value_ (w1 := ?_) (v := ?_) (by rfl) rfl ?_ ?_
          rotate_left 2
          · go_simp
            constructor
            · rfl
            · rfl
          have hzgO : NAt (World.alloc u1 (.cells (nw 0).toArray 24)) (u1.heap.size) 0 := by have h_ := Row.new u1 24 (nw 0); first | exact h_ | (simp only [alloc_sz] at h_; exact h_) | omega
          have hsgO : w1.heap.size ≤ u1.heap.size := by have h_ := hHeld.size; first | exact h_ | (simp only [alloc_sz] at h_; exact h_) | omega
          have hngXgO : w1.heap.size < u1.heap.size := by have h_ := hzgX.size; first | exact h_ | (simp only [alloc_sz] at h_; exact h_) | omega
          have hzogX := hzgX.on (below_alloc (Below.refl _ u1) (.cells (nw 0).toArray 24))
          clear hzgX
          have hzgX := hzogX
          clear hzogX
          refine hK.out _ _ (below_alloc hHeld _) (fun hHeld => ?_)
          clear hK K
          refine norm_ (a' := ?_) ?_ ?_
          rotate_left
          · show Act.put _ (some 8) _ = _
            simp only [Act.put, List.setIfInBounds_toArray, List.set_cons_zero, List.set_cons_succ, i64_w, i32_w]
            rfl
          refine one_ (i := 8) (N := some 18) #[true, true, true, true, true, true, true, true, true, true, true, true, true, true, true, false, false] rfl rfl (by kernel_rfl) (by decide) (fun K hK => ?_)
          refine goes_ Try.func39 (by kernel_rfl) rfl #[.pointer (some ⟨gf, 0, none⟩), numV c, numV s] (by rfl) rfl rfl (by simp only [List.map_toArray, List.map_cons, List.map_nil]; rfl) ?_
          with_reducible refine (HM1.out _ (HF.out.below hHeld HF.out.size)).mono ?_
          rintro e1 u2 ⟨rfl, hb_u2⟩
          refine ⟨_, rfl, ?_⟩
          have hzogX := hzgX.on hb_u2
          clear hzgX
          have hzgX := hzogX
          clear hzogX
          have hzogO := hzgO.on hb_u2
          clear hzgO
          have hzgO := hzogO
          clear hzogO
          refine hK.out _ _ (bl_on hHeld hb_u2 hHeld.size) (fun hHeld => ?_)
          clear hK K
          refine norm_ (a' := ?_) ?_ ?_
          rotate_left
          · show Act.put _ (some 18) _ = _
            simp only [Act.put, List.setIfInBounds_toArray, List.set_cons_zero, List.set_cons_succ, i64_w, i32_w]
            rfl
          exact norm_ (by simp only [putAll, Act.put, List.setIfInBounds_toArray, List.set_cons_zero, List.set_cons_succ]) (hCont (w1.heap.size, u1.heap.size) _ ⟨hHeld, hzgX, hsgX, hzgO, hsgO, Nat.ne_of_lt hngXgO⟩)
      · skip
        refine value_ (w1 := ?_) (v := ?_) (by rfl) rfl ?_ ?_
        rotate_left 2
        · go_simp
          constructor
          · rfl
          · rfl
        have hzgO : NAt (World.alloc (World.alloc (World.drew w1) (.cells (nw 0).toArray 24)) (.cells (nw 0).toArray 24)) (w1.heap.size + 1) 0 := by have h_ := Row.new (World.alloc (World.drew w1) (.cells (nw 0).toArray 24)) 24 (nw 0); first | exact h_ | (simp only [alloc_sz] at h_; exact h_) | omega
        have hsgO : w1.heap.size ≤ w1.heap.size + 1 := by have h_ := hHeld.size; first | exact h_ | (simp only [alloc_sz] at h_; exact h_) | omega
        have hngXgO : w1.heap.size < w1.heap.size + 1 := by have h_ := hzgX.size; first | exact h_ | (simp only [alloc_sz] at h_; exact h_) | omega
        have hzogX := hzgX.on (below_alloc (Below.refl _ (World.alloc (World.drew w1) (.cells (nw 0).toArray 24))) (.cells (nw 0).toArray 24))
        clear hzgX
        have hzgX := hzogX
        clear hzogX
        refine hK.out _ _ (below_alloc hHeld _) (fun hHeld => ?_)
        clear hK K
        refine norm_ (a' := ?_) ?_ ?_
        rotate_left
        · show Act.put _ (some 8) _ = _
          simp only [Act.put, List.setIfInBounds_toArray, List.set_cons_zero, List.set_cons_succ, i64_w, i32_w]
          rfl
        refine one_ (i := 3) (N := some 13) #[true, true, true, true, true, true, true, true, false, true, true, true, true, true, true, false, false] rfl rfl (by kernel_rfl) (by decide) (fun K hK => ?_)
        refine goes_ Try.func30 (by kernel_rfl) rfl #[.pointer (some ⟨gf, 0, none⟩), numV a] (by rfl) rfl rfl (by simp only [List.map_toArray, List.map_cons, List.map_nil]; rfl) ?_
        with_reducible refine (HI1.out _ (HF.out.below hHeld HF.out.size)).mono ?_
        rintro e1 u1 ⟨rfl, hb_u1⟩
        refine ⟨_, rfl, ?_⟩
        have hzogX := hzgX.on hb_u1
        clear hzgX
        have hzgX := hzogX
        clear hzogX
        have hzogO := hzgO.on hb_u1
        clear hzgO
        have hzgO := hzogO
        clear hzogO
        refine hK.out _ _ (bl_on hHeld hb_u1 hHeld.size) (fun hHeld => ?_)
        clear hK K
        refine norm_ (a' := ?_) ?_ ?_
        rotate_left
        · show Act.put _ (some 13) _ = _
          simp only [Act.put, List.setIfInBounds_toArray, List.set_cons_zero, List.set_cons_succ, i64_w, i32_w]
          rfl
        refine one_ (i := 8) (N := some 18) #[true, true, true, true, true, true, true, true, true, true, true, true, true, true, true, false, false] rfl rfl (by kernel_rfl) (by decide) (fun K hK => ?_)
        refine goes_ Try.func39 (by kernel_rfl) rfl #[.pointer (some ⟨gf, 0, none⟩), numV c, numV s] (by rfl) rfl rfl (by simp only [List.map_toArray, List.map_cons, List.map_nil]; rfl) ?_
        with_reducible refine (HM1.out _ (HF.out.below hHeld HF.out.size)).mono ?_
        rintro e1 u2 ⟨rfl, hb_u2⟩
        refine ⟨_, rfl, ?_⟩
        have hzogX := hzgX.on hb_u2
        clear hzgX
        have hzgX := hzogX
        clear hzogX
        have hzogO := hzgO.on hb_u2
        clear hzgO
        have hzgO := hzogO
        clear hzogO
        refine hK.out _ _ (bl_on hHeld hb_u2 hHeld.size) (fun hHeld => ?_)
        clear hK K
        refine norm_ (a' := ?_) ?_ ?_
        rotate_left
        · show Act.put _ (some 18) _ = _
          simp only [Act.put, List.setIfInBounds_toArray, List.set_cons_zero, List.set_cons_succ, i64_w, i32_w]
          rfl
        exact norm_ (by simp only [putAll, Act.put, List.setIfInBounds_toArray, List.set_cons_zero, List.set_cons_succ]) (hCont (w1.heap.size, w1.heap.size + 1) _ ⟨hHeld, hzgX, hsgX, hzgO, hsgO, Nat.ne_of_lt hngXgO⟩)
    · skip
      refine value_ (w1 := ?_) (v := ?_) (by rfl) rfl ?_ ?_
      rotate_left 2
      · go_simp
        constructor
        · rfl
        · rfl
      have hzgO : NAt (World.alloc (World.drew w1) (.cells (nw 0).toArray 24)) (w1.heap.size) 0 := by have h_ := Row.new (World.drew w1) 24 (nw 0); first | exact h_ | (simp only [alloc_sz] at h_; exact h_) | omega
      have hsgO : w1.heap.size ≤ w1.heap.size := by have h_ := hHeld.size; first | exact h_ | (simp only [alloc_sz] at h_; exact h_) | omega
      refine hK.out _ _ (below_alloc hHeld _) (fun hHeld => ?_)
      clear hK K
      refine norm_ (a' := ?_) ?_ ?_
      rotate_left
      · show Act.put _ (some 8) _ = _
        simp only [Act.put, List.setIfInBounds_toArray, List.set_cons_zero, List.set_cons_succ, i64_w, i32_w]
        rfl
      refine two_ (i := 3) (j := 13) (Ni := some 13) (Nj := some 7) #[true, true, true, true, true, true, true, true, false, true, true, true, true, false, true, false, false] #[true, true, true, false, true, true, true, true, false, true, true, true, true, true, true, false, false] rfl rfl rfl rfl (by kernel_rfl) (by decide) (by decide) (fun K hK => ?_) (fun K hK => ?_)
      · skip
        refine goes_ Try.func30 (by kernel_rfl) rfl #[.pointer (some ⟨gf, 0, none⟩), numV a] (by rfl) rfl rfl (by simp only [List.map_toArray, List.map_cons, List.map_nil]; rfl) ?_
        with_reducible refine (HI1.out _ (HF.out.below hHeld HF.out.size)).mono ?_
        rintro e1 u1 ⟨rfl, hb_u1⟩
        refine ⟨_, rfl, ?_⟩
        have hzogO := hzgO.on hb_u1
        clear hzgO
        have hzgO := hzogO
        clear hzogO
        refine hK.out _ _ (bl_on hHeld hb_u1 hHeld.size) (fun hHeld => ?_)
        clear hK K
        refine norm_ (a' := ?_) ?_ ?_
        rotate_left
        · show Act.put _ (some 13) _ = _
          simp only [Act.put, List.setIfInBounds_toArray, List.set_cons_zero, List.set_cons_succ, i64_w, i32_w]
          rfl
        refine two_ (i := 8) (j := 13) (Ni := some 18) (Nj := some 7) #[true, true, true, true, true, true, true, true, true, true, true, true, true, false, true, false, false] #[true, true, true, true, true, true, true, true, false, true, true, true, true, true, true, false, false] rfl rfl rfl rfl (by kernel_rfl) (by decide) (by decide) (fun K hK => ?_) (fun K hK => ?_)
        · skip
          refine goes_ Try.func39 (by kernel_rfl) rfl #[.pointer (some ⟨gf, 0, none⟩), numV c, numV s] (by rfl) rfl rfl (by simp only [List.map_toArray, List.map_cons, List.map_nil]; rfl) ?_
          with_reducible refine (HM1.out _ (HF.out.below hHeld HF.out.size)).mono ?_
          rintro e1 u2 ⟨rfl, hb_u2⟩
          refine ⟨_, rfl, ?_⟩
          have hzogO := hzgO.on hb_u2
          clear hzgO
          have hzgO := hzogO
          clear hzogO
          refine hK.out _ _ (bl_on hHeld hb_u2 hHeld.size) (fun hHeld => ?_)
          clear hK K
          refine norm_ (a' := ?_) ?_ ?_
          rotate_left
          · show Act.put _ (some 18) _ = _
            simp only [Act.put, List.setIfInBounds_toArray, List.set_cons_zero, List.set_cons_succ, i64_w, i32_w]
            rfl
          refine one_ (i := 13) (N := some 7) #[true, true, true, true, true, true, true, true, true, true, true, true, true, true, true, false, false] rfl rfl (by kernel_rfl) (by decide) (fun K hK => ?_)
          refine value_ (w1 := ?_) (v := ?_) (by rfl) rfl ?_ ?_
          rotate_left 2
          · go_simp
            constructor
            · rfl
            · rfl
          have hzgX : NAt (World.alloc u2 (.cells (nw 0).toArray 24)) (u2.heap.size) 0 := by have h_ := Row.new u2 24 (nw 0); first | exact h_ | (simp only [alloc_sz] at h_; exact h_) | omega
          have hsgX : w1.heap.size ≤ u2.heap.size := by have h_ := hHeld.size; first | exact h_ | (simp only [alloc_sz] at h_; exact h_) | omega
          have hngOgX : w1.heap.size < u2.heap.size := by have h_ := hzgO.size; first | exact h_ | (simp only [alloc_sz] at h_; exact h_) | omega
          have hzogO := hzgO.on (below_alloc (Below.refl _ u2) (.cells (nw 0).toArray 24))
          clear hzgO
          have hzgO := hzogO
          clear hzogO
          refine hK.out _ _ (below_alloc hHeld _) (fun hHeld => ?_)
          clear hK K
          refine norm_ (a' := ?_) ?_ ?_
          rotate_left
          · show Act.put _ (some 7) _ = _
            simp only [Act.put, List.setIfInBounds_toArray, List.set_cons_zero, List.set_cons_succ, i64_w, i32_w]
            rfl
          exact norm_ (by simp only [putAll, Act.put, List.setIfInBounds_toArray, List.set_cons_zero, List.set_cons_succ]) (hCont (u2.heap.size, w1.heap.size) _ ⟨hHeld, hzgX, hsgX, hzgO, hsgO, Nat.ne_of_gt hngOgX⟩)
        · skip
          refine value_ (w1 := ?_) (v := ?_) (by rfl) rfl ?_ ?_
          rotate_left 2
          · go_simp
            constructor
            · rfl
            · rfl
          have hzgX : NAt (World.alloc u1 (.cells (nw 0).toArray 24)) (u1.heap.size) 0 := by have h_ := Row.new u1 24 (nw 0); first | exact h_ | (simp only [alloc_sz] at h_; exact h_) | omega
          have hsgX : w1.heap.size ≤ u1.heap.size := by have h_ := hHeld.size; first | exact h_ | (simp only [alloc_sz] at h_; exact h_) | omega
          have hngOgX : w1.heap.size < u1.heap.size := by have h_ := hzgO.size; first | exact h_ | (simp only [alloc_sz] at h_; exact h_) | omega
          have hzogO := hzgO.on (below_alloc (Below.refl _ u1) (.cells (nw 0).toArray 24))
          clear hzgO
          have hzgO := hzogO
          clear hzogO
          refine hK.out _ _ (below_alloc hHeld _) (fun hHeld => ?_)
          clear hK K
          refine norm_ (a' := ?_) ?_ ?_
          rotate_left
          · show Act.put _ (some 7) _ = _
            simp only [Act.put, List.setIfInBounds_toArray, List.set_cons_zero, List.set_cons_succ, i64_w, i32_w]
            rfl
          refine one_ (i := 8) (N := some 18) #[true, true, true, true, true, true, true, true, true, true, true, true, true, true, true, false, false] rfl rfl (by kernel_rfl) (by decide) (fun K hK => ?_)
          refine goes_ Try.func39 (by kernel_rfl) rfl #[.pointer (some ⟨gf, 0, none⟩), numV c, numV s] (by rfl) rfl rfl (by simp only [List.map_toArray, List.map_cons, List.map_nil]; rfl) ?_
          with_reducible refine (HM1.out _ (HF.out.below hHeld HF.out.size)).mono ?_
          rintro e1 u2 ⟨rfl, hb_u2⟩
          refine ⟨_, rfl, ?_⟩
          have hzogO := hzgO.on hb_u2
          clear hzgO
          have hzgO := hzogO
          clear hzogO
          have hzogX := hzgX.on hb_u2
          clear hzgX
          have hzgX := hzogX
          clear hzogX
          refine hK.out _ _ (bl_on hHeld hb_u2 hHeld.size) (fun hHeld => ?_)
          clear hK K
          refine norm_ (a' := ?_) ?_ ?_
          rotate_left
          · show Act.put _ (some 18) _ = _
            simp only [Act.put, List.setIfInBounds_toArray, List.set_cons_zero, List.set_cons_succ, i64_w, i32_w]
            rfl
          exact norm_ (by simp only [putAll, Act.put, List.setIfInBounds_toArray, List.set_cons_zero, List.set_cons_succ]) (hCont (u1.heap.size, w1.heap.size) _ ⟨hHeld, hzgX, hsgX, hzgO, hsgO, Nat.ne_of_gt hngOgX⟩)
      · skip
        refine value_ (w1 := ?_) (v := ?_) (by rfl) rfl ?_ ?_
        rotate_left 2
        · go_simp
          constructor
          · rfl
          · rfl
        have hzgX : NAt (World.alloc (World.alloc (World.drew w1) (.cells (nw 0).toArray 24)) (.cells (nw 0).toArray 24)) (w1.heap.size + 1) 0 := by have h_ := Row.new (World.alloc (World.drew w1) (.cells (nw 0).toArray 24)) 24 (nw 0); first | exact h_ | (simp only [alloc_sz] at h_; exact h_) | omega
        have hsgX : w1.heap.size ≤ w1.heap.size + 1 := by have h_ := hHeld.size; first | exact h_ | (simp only [alloc_sz] at h_; exact h_) | omega
        have hngOgX : w1.heap.size < w1.heap.size + 1 := by have h_ := hzgO.size; first | exact h_ | (simp only [alloc_sz] at h_; exact h_) | omega
        have hzogO := hzgO.on (below_alloc (Below.refl _ (World.alloc (World.drew w1) (.cells (nw 0).toArray 24))) (.cells (nw 0).toArray 24))
        clear hzgO
        have hzgO := hzogO
        clear hzogO
        refine hK.out _ _ (below_alloc hHeld _) (fun hHeld => ?_)
        clear hK K
        refine norm_ (a' := ?_) ?_ ?_
        rotate_left
        · show Act.put _ (some 7) _ = _
          simp only [Act.put, List.setIfInBounds_toArray, List.set_cons_zero, List.set_cons_succ, i64_w, i32_w]
          rfl
        refine one_ (i := 3) (N := some 13) #[true, true, true, true, true, true, true, true, false, true, true, true, true, true, true, false, false] rfl rfl (by kernel_rfl) (by decide) (fun K hK => ?_)
        refine goes_ Try.func30 (by kernel_rfl) rfl #[.pointer (some ⟨gf, 0, none⟩), numV a] (by rfl) rfl rfl (by simp only [List.map_toArray, List.map_cons, List.map_nil]; rfl) ?_
        with_reducible refine (HI1.out _ (HF.out.below hHeld HF.out.size)).mono ?_
        rintro e1 u1 ⟨rfl, hb_u1⟩
        refine ⟨_, rfl, ?_⟩
        have hzogO := hzgO.on hb_u1
        clear hzgO
        have hzgO := hzogO
        clear hzogO
        have hzogX := hzgX.on hb_u1
        clear hzgX
        have hzgX := hzogX
        clear hzogX
        refine hK.out _ _ (bl_on hHeld hb_u1 hHeld.size) (fun hHeld => ?_)
        clear hK K
        refine norm_ (a' := ?_) ?_ ?_
        rotate_left
        · show Act.put _ (some 13) _ = _
          simp only [Act.put, List.setIfInBounds_toArray, List.set_cons_zero, List.set_cons_succ, i64_w, i32_w]
          rfl
        refine one_ (i := 8) (N := some 18) #[true, true, true, true, true, true, true, true, true, true, true, true, true, true, true, false, false] rfl rfl (by kernel_rfl) (by decide) (fun K hK => ?_)
        refine goes_ Try.func39 (by kernel_rfl) rfl #[.pointer (some ⟨gf, 0, none⟩), numV c, numV s] (by rfl) rfl rfl (by simp only [List.map_toArray, List.map_cons, List.map_nil]; rfl) ?_
        with_reducible refine (HM1.out _ (HF.out.below hHeld HF.out.size)).mono ?_
        rintro e1 u2 ⟨rfl, hb_u2⟩
        refine ⟨_, rfl, ?_⟩
        have hzogO := hzgO.on hb_u2
        clear hzgO
        have hzgO := hzogO
        clear hzogO
        have hzogX := hzgX.on hb_u2
        clear hzgX
        have hzgX := hzogX
        clear hzogX
        refine hK.out _ _ (bl_on hHeld hb_u2 hHeld.size) (fun hHeld => ?_)
        clear hK K
        refine norm_ (a' := ?_) ?_ ?_
        rotate_left
        · show Act.put _ (some 18) _ = _
          simp only [Act.put, List.setIfInBounds_toArray, List.set_cons_zero, List.set_cons_succ, i64_w, i32_w]
          rfl
        exact norm_ (by simp only [putAll, Act.put, List.setIfInBounds_toArray, List.set_cons_zero, List.set_cons_succ]) (hCont (w1.heap.size + 1, w1.heap.size) _ ⟨hHeld, hzgX, hsgX, hzgO, hsgO, Nat.ne_of_gt hngOgX⟩)
  rintro ⟨gX, gO⟩ w5 ⟨hHeld, hzgX, hsgX, hzgO, hsgO, hnegXgO⟩
  refine norm_ (a' := ?_) ?_ ?_
  rotate_left
  · simp only [putAll, Act.put, List.setIfInBounds_toArray, List.set_cons_zero, List.set_cons_succ]
    rfl
  refine one_ (i := 15) (N := none) #[true, true, true, true, true, true, true, true, true, true, true, true, true, true, true, true, false] rfl rfl (by kernel_rfl) (by decide) (fun K hK => ?_)
  refine skip_num hzgX (by rfl) rfl (.tmp 7) (.tmp 18) rfl rfl rfl ?_
  intro u5 hA5 hT5
  refine hK.out _ _ (bl_but hHeld hT5 hHeld.size hsgX) (fun hHeld => ?_)
  clear hK K
  refine last_ (i := 16) (N := none) #[true, true, true, true, true, true, true, true, true, true, true, true, true, true, true, true, true] rfl rfl (by kernel_rfl) (by decide) (fun K hK => ?_)
  refine skip_num (hzgO.but hT5 hnegXgO.symm) (by rfl) rfl (.tmp 8) (.tmp 22) rfl rfl rfl ?_
  intro u6 hA6 hT6
  refine hK.out _ _ ?_
  clear hK K
  refine done_ (by kernel_rfl) ?_
  have HXgX : Aside0 (w.heap.size + 1 + 1 + 1 ≤ gX) := Aside0.mk (Nat.le_trans HS.out hsgX)
  have HXgO : Aside0 (w.heap.size + 1 + 1 + 1 ≤ gO) := Aside0.mk (Nat.le_trans HS.out hsgO)
  have HNE : Aside0 (gX ≠ gO) := Aside0.mk hnegXgO
  have HX := Aside0.mk hA5
  replace HA := Aside0.mk (HA.out.on hHeld)
  replace HE := Aside0.mk (HE.out.on hHeld)
  replace HR := Aside0.mk (HR.out.on hHeld)
  replace HF := Aside0.mk (HF.out.on hHeld)
  replace HB := Aside0.mk (bl_on HB.out hHeld HB.out.size)
  replace HS := Aside0.mk (Nat.le_trans HS.out hHeld.size)
  replace HA := Aside0.mk (HA.out.but hT6 (by first | omega | exact HNE.out | exact HNE.out.symm | (have := HG.out; have := HXgX.out; have := HXgO.out; omega)))
  replace HE := Aside0.mk (HE.out.but hT6 (by first | omega | exact HNE.out | exact HNE.out.symm | (have := HG.out; have := HXgX.out; have := HXgO.out; omega)))
  replace HR := Aside0.mk (HR.out.but hT6 (by first | omega | exact HNE.out | exact HNE.out.symm | (have := HG.out; have := HXgX.out; have := HXgO.out; omega)))
  replace HF := Aside0.mk (HF.out.but hT6 (by first | omega | exact HNE.out | exact HNE.out.symm | (have := HG.out; have := HXgX.out; have := HXgO.out; omega)))
  replace HX := Aside0.mk (HX.out.but hT6 (by first | omega | exact HNE.out | exact HNE.out.symm | (have := HG.out; have := HXgX.out; have := HXgO.out; omega)))
  have HO := Aside0.mk hA6
  replace HB := Aside0.mk (bl_but HB.out hT6 HB.out.size (by have := HXgO.out; omega))
  replace HS := Aside0.mk (Nat.le_trans HS.out hT6.size)
  clear hA6 hT6
  clear hA5 hT5 hHeld hzgX hzgO hsgX hsgO hnegXgO HI1 HM1
  have q0 := dec_len l HLL.out
  rw [← HTOP.out] at HO
  go_wp2_with (first | ((with_reducible refine gate_dst (N := 23) rfl ?_); refine ld_num (HE.out.range) rfl _ rfl rfl ?_) | ((with_reducible refine gate_callee (f := 27) rfl ?_); refine goesL_ (some 24) rfl rfl Try.func27 (by kernel_rfl) rfl #[numV e] rfl (by (try simp only [List.map_toArray, List.map_cons, List.map_nil]); first | done | rfl) ?_; (with_reducible refine (HLE.out _).mono ?_); rintro e1 u7 ⟨rfl, hb7⟩; replace HA := Aside0.mk (HA.out.on hb7); replace HE := Aside0.mk (HE.out.on hb7); replace HR := Aside0.mk (HR.out.on hb7); replace HF := Aside0.mk (HF.out.on hb7); replace HX := Aside0.mk (HX.out.on hb7); replace HO := Aside0.mk (HO.out.on hb7); replace HB := Aside0.mk (bl_on HB.out hb7 HB.out.size); replace HS := Aside0.mk (Nat.le_trans HS.out hb7.size); clear hb7; refine ⟨_, rfl, ?_⟩))
  try rw [q0]
  clear q0
  go_loopw [9] (fun v wr => ∃ j : Nat, j ≤ l ∧ v = .int .i64 ((j : Int) - 1) ∧ Aside0 (NAt wr (w.heap.size) (a)) ∧ Aside0 (NAt wr (w.heap.size + 1) (e)) ∧ Aside0 (NAt wr (w.heap.size + 1 + 1) (0)) ∧ Aside0 (FAt wr (gf) m t o s) ∧ Aside0 (NAt wr (gX) (x)) ∧ Aside0 (NAt wr (gO) (mf m (c ^ (e / 2 ^ j)))) ∧ Aside0 (Below w.heap.size w wr) ∧ Aside0 (w.heap.size + 1 + 1 + 1 ≤ wr.heap.size))
    (fun v _ => (intOf v + 1).toNat)
  case atStart => exact ⟨l, Nat.le_refl _, rfl, HA, HE, HR, HF, HX, HO, HB, HS⟩
  case round =>
    clear HA HE HR HF HX HO HB HS
    obtain ⟨j, hj, rfl, HA, HE, HR, HF, HX, HO, HB, HS⟩ := hrel
    obtain ⟨u0, hu0⟩ : ∃ x, x = wr := ⟨_, rfl⟩
    subst hu0
    by_cases hj0 : j = 0
    · subst hj0
      clear hj
      generalize mf m (c ^ (e / 2 ^ 0)) = v at *
      go_wp2_with (first | ((with_reducible refine gate_dst (N := 42) rfl ?_); refine ld_num (HO.out.range) rfl _ rfl rfl ?_) | ((with_reducible refine gate_callee (f := 39) rfl ?_); refine goesL_ (some 44) rfl rfl Try.func39 (by kernel_rfl) rfl #[.pointer (some ⟨gf, 0, none⟩), numV v, numV 1] rfl (by (try simp only [List.map_toArray, List.map_cons, List.map_nil]); first | done | rfl) ?_; (with_reducible refine (HME.out _ HF.out).mono ?_); rintro e1 u4 ⟨rfl, hb4⟩; replace HA := Aside0.mk (HA.out.on hb4); replace HE := Aside0.mk (HE.out.on hb4); replace HR := Aside0.mk (HR.out.on hb4); replace HF := Aside0.mk (HF.out.on hb4); replace HX := Aside0.mk (HX.out.on hb4); replace HO := Aside0.mk (HO.out.on hb4); replace HB := Aside0.mk (bl_on HB.out hb4 HB.out.size); replace HS := Aside0.mk (Nat.le_trans HS.out hb4.size); clear hb4; refine ⟨_, rfl, ?_⟩) | ((with_reducible refine gate_st (y := .tmp 44) rfl ?_); refine st_num (HR.out) rfl _ _ rfl rfl rfl ?_; intro u5 hA5 hT5; replace HA := Aside0.mk (HA.out.but hT5 (by first | omega | exact HNE.out | exact HNE.out.symm | (have := HG.out; have := HXgX.out; have := HXgO.out; omega))); replace HE := Aside0.mk (HE.out.but hT5 (by first | omega | exact HNE.out | exact HNE.out.symm | (have := HG.out; have := HXgX.out; have := HXgO.out; omega))); replace HF := Aside0.mk (HF.out.but hT5 (by first | omega | exact HNE.out | exact HNE.out.symm | (have := HG.out; have := HXgX.out; have := HXgO.out; omega))); replace HX := Aside0.mk (HX.out.but hT5 (by first | omega | exact HNE.out | exact HNE.out.symm | (have := HG.out; have := HXgX.out; have := HXgO.out; omega))); replace HO := Aside0.mk (HO.out.but hT5 (by first | omega | exact HNE.out | exact HNE.out.symm | (have := HG.out; have := HXgX.out; have := HXgO.out; omega))); replace HR := Aside0.mk hA5; replace HB := Aside0.mk (bl_but HB.out hT5 HB.out.size (by omega)); replace HS := Aside0.mk (Nat.le_trans HS.out hT5.size); clear hA5 hT5))
      exact bodyPost_ret (v := numV r) (results_nat rfl rfl HR.out) rfl ⟨rfl, HB.out⟩
    · obtain ⟨i, rfl⟩ : ∃ i, j = i + 1 := ⟨j - 1, by omega⟩
      have hi : i < l := hj
      rw [show (((i + 1 : Nat) : Int) - 1) = (i : Int) by omega]
      have hst := HSTEP.out i
      obtain ⟨v, hv⟩ : ∃ v, v = mf m (c ^ (e / 2 ^ (i + 1))) := ⟨_, rfl⟩
      simp only [← hv] at hst
      rw [← hv] at HO
      have hvm : v < m := by rw [hv]; exact HLT.out _
      obtain ⟨v2, hv2⟩ : ∃ x, x = monR m v v := ⟨_, rfl⟩
      have hv2m : v2 < m := by rw [hv2]; exact monR_lt m _ _ (by omega)
      have HC1 := HMO.out v v hvm hvm
      have HC2 := HMO.out v2 x hv2m (by rw [HX0.out]; exact HLT.out _)
      rw [← hv2] at HC1 hst
      rw [← HX0.out] at hst
      have HBI := Aside0.mk (fun u => HBT.out (i : Int) u)
      rw [bitI_nat] at HBI
      have q1 := dec64 i (by have := HLL.out; omega)
      have HIL := Aside0.mk hi
      have t1 : (0 : Int) ≤ (i : Int) := Int.natCast_nonneg i
      obtain ⟨D, hD⟩ : ∃ D, D = e.testBit i := ⟨_, rfl⟩
      rw [← hD] at HBI hst
      generalize monR m v2 x = v3 at *
      clear hv hvm hv2 hv2m hi hj hj0 hD
      cases D with
      | false =>
        have HR2 := Aside0.mk (hst.1 rfl)
        clear hst
        go_upto_region 4 with (first | ((with_reducible refine gate_dst (N := 31) rfl ?_); refine ld_num (HO.out.range) rfl _ rfl rfl ?_) | ((with_reducible refine gate_dst (N := 32) rfl ?_); refine ld_num (HO.out.range) rfl _ rfl rfl ?_) | ((with_reducible refine gate_callee (f := 39) rfl ?_); refine goesL_ (some 33) rfl rfl Try.func39 (by kernel_rfl) rfl #[.pointer (some ⟨gf, 0, none⟩), numV v, numV v] rfl (by (try simp only [List.map_toArray, List.map_cons, List.map_nil]); first | done | rfl) ?_; (with_reducible refine (HC1.out _ HF.out).mono ?_); rintro e1 v1 ⟨rfl, hb1⟩; replace HA := Aside0.mk (HA.out.on hb1); replace HE := Aside0.mk (HE.out.on hb1); replace HR := Aside0.mk (HR.out.on hb1); replace HF := Aside0.mk (HF.out.on hb1); replace HX := Aside0.mk (HX.out.on hb1); replace HO := Aside0.mk (HO.out.on hb1); replace HB := Aside0.mk (bl_on HB.out hb1 HB.out.size); replace HS := Aside0.mk (Nat.le_trans HS.out hb1.size); clear hb1; refine ⟨_, rfl, ?_⟩) | ((with_reducible refine gate_st (y := .tmp 33) rfl ?_); refine st_num (HO.out) rfl _ _ rfl rfl rfl ?_; intro v5 hA5 hT5; replace HA := Aside0.mk (HA.out.but hT5 (by first | omega | exact HNE.out | exact HNE.out.symm | (have := HG.out; have := HXgX.out; have := HXgO.out; omega))); replace HE := Aside0.mk (HE.out.but hT5 (by first | omega | exact HNE.out | exact HNE.out.symm | (have := HG.out; have := HXgX.out; have := HXgO.out; omega))); replace HR := Aside0.mk (HR.out.but hT5 (by first | omega | exact HNE.out | exact HNE.out.symm | (have := HG.out; have := HXgX.out; have := HXgO.out; omega))); replace HF := Aside0.mk (HF.out.but hT5 (by first | omega | exact HNE.out | exact HNE.out.symm | (have := HG.out; have := HXgX.out; have := HXgO.out; omega))); replace HX := Aside0.mk (HX.out.but hT5 (by first | omega | exact HNE.out | exact HNE.out.symm | (have := HG.out; have := HXgX.out; have := HXgO.out; omega))); replace HO := Aside0.mk hA5; replace HB := Aside0.mk (bl_but HB.out hT5 HB.out.size (by have := HXgO.out; omega)); replace HS := Aside0.mk (Nat.le_trans HS.out hT5.size); clear hA5 hT5) | ((with_reducible refine gate_dst (N := 34) rfl ?_); refine ld_num (HE.out.range) rfl _ rfl rfl ?_) | ((with_reducible refine gate_callee (f := 40) rfl ?_); refine goesL_ (some 36) rfl rfl Try.func40 (by kernel_rfl) rfl #[numV e, .int .i64 (i : Int)] rfl (by (try simp only [List.map_toArray, List.map_cons, List.map_nil]); first | done | rfl) ?_; (with_reducible refine (HBI.out _).mono ?_); rintro e1 v6 ⟨rfl, hb6⟩; replace HA := Aside0.mk (HA.out.on hb6); replace HE := Aside0.mk (HE.out.on hb6); replace HR := Aside0.mk (HR.out.on hb6); replace HF := Aside0.mk (HF.out.on hb6); replace HX := Aside0.mk (HX.out.on hb6); replace HO := Aside0.mk (HO.out.on hb6); replace HB := Aside0.mk (bl_on HB.out hb6 HB.out.size); replace HS := Aside0.mk (Nat.le_trans HS.out hb6.size); clear hb6; refine ⟨_, rfl, ?_⟩))
        go_wp2
        refine ⟨⟨i, ?_, ?_, ?_, ?_, ?_, ?_, ?_, ?_, ?_, ?_⟩, ?_⟩
        · exact Nat.le_of_lt HIL.out
        · (try rw [q1])
        · exact HA
        · exact HE
        · exact HR
        · exact HF
        · exact HX
        · rw [← HR2.out]; exact HO
        · exact HB
        · exact HS
        · (try rw [q1]); exact cut_meas i
      | true =>
        have HR2 := Aside0.mk (hst.2 rfl)
        clear hst
        go_upto_region 4 with (first | ((with_reducible refine gate_dst (N := 31) rfl ?_); refine ld_num (HO.out.range) rfl _ rfl rfl ?_) | ((with_reducible refine gate_dst (N := 32) rfl ?_); refine ld_num (HO.out.range) rfl _ rfl rfl ?_) | ((with_reducible refine gate_callee (f := 39) rfl ?_); refine goesL_ (some 33) rfl rfl Try.func39 (by kernel_rfl) rfl #[.pointer (some ⟨gf, 0, none⟩), numV v, numV v] rfl (by (try simp only [List.map_toArray, List.map_cons, List.map_nil]); first | done | rfl) ?_; (with_reducible refine (HC1.out _ HF.out).mono ?_); rintro e1 v1 ⟨rfl, hb1⟩; replace HA := Aside0.mk (HA.out.on hb1); replace HE := Aside0.mk (HE.out.on hb1); replace HR := Aside0.mk (HR.out.on hb1); replace HF := Aside0.mk (HF.out.on hb1); replace HX := Aside0.mk (HX.out.on hb1); replace HO := Aside0.mk (HO.out.on hb1); replace HB := Aside0.mk (bl_on HB.out hb1 HB.out.size); replace HS := Aside0.mk (Nat.le_trans HS.out hb1.size); clear hb1; refine ⟨_, rfl, ?_⟩) | ((with_reducible refine gate_st (y := .tmp 33) rfl ?_); refine st_num (HO.out) rfl _ _ rfl rfl rfl ?_; intro v5 hA5 hT5; replace HA := Aside0.mk (HA.out.but hT5 (by first | omega | exact HNE.out | exact HNE.out.symm | (have := HG.out; have := HXgX.out; have := HXgO.out; omega))); replace HE := Aside0.mk (HE.out.but hT5 (by first | omega | exact HNE.out | exact HNE.out.symm | (have := HG.out; have := HXgX.out; have := HXgO.out; omega))); replace HR := Aside0.mk (HR.out.but hT5 (by first | omega | exact HNE.out | exact HNE.out.symm | (have := HG.out; have := HXgX.out; have := HXgO.out; omega))); replace HF := Aside0.mk (HF.out.but hT5 (by first | omega | exact HNE.out | exact HNE.out.symm | (have := HG.out; have := HXgX.out; have := HXgO.out; omega))); replace HX := Aside0.mk (HX.out.but hT5 (by first | omega | exact HNE.out | exact HNE.out.symm | (have := HG.out; have := HXgX.out; have := HXgO.out; omega))); replace HO := Aside0.mk hA5; replace HB := Aside0.mk (bl_but HB.out hT5 HB.out.size (by have := HXgO.out; omega)); replace HS := Aside0.mk (Nat.le_trans HS.out hT5.size); clear hA5 hT5) | ((with_reducible refine gate_dst (N := 34) rfl ?_); refine ld_num (HE.out.range) rfl _ rfl rfl ?_) | ((with_reducible refine gate_callee (f := 40) rfl ?_); refine goesL_ (some 36) rfl rfl Try.func40 (by kernel_rfl) rfl #[numV e, .int .i64 (i : Int)] rfl (by (try simp only [List.map_toArray, List.map_cons, List.map_nil]); first | done | rfl) ?_; (with_reducible refine (HBI.out _).mono ?_); rintro e1 v6 ⟨rfl, hb6⟩; replace HA := Aside0.mk (HA.out.on hb6); replace HE := Aside0.mk (HE.out.on hb6); replace HR := Aside0.mk (HR.out.on hb6); replace HF := Aside0.mk (HF.out.on hb6); replace HX := Aside0.mk (HX.out.on hb6); replace HO := Aside0.mk (HO.out.on hb6); replace HB := Aside0.mk (bl_on HB.out hb6 HB.out.size); replace HS := Aside0.mk (Nat.le_trans HS.out hb6.size); clear hb6; refine ⟨_, rfl, ?_⟩) | ((with_reducible refine gate_dst (N := 38) rfl ?_); refine ld_num (HO.out.range) rfl _ rfl rfl ?_) | ((with_reducible refine gate_dst (N := 39) rfl ?_); refine ld_num (HX.out.range) rfl _ rfl rfl ?_) | ((with_reducible refine gate_callee (f := 39) rfl ?_); refine goesL_ (some 40) rfl rfl Try.func39 (by kernel_rfl) rfl #[.pointer (some ⟨gf, 0, none⟩), numV v2, numV x] rfl (by (try simp only [List.map_toArray, List.map_cons, List.map_nil]); first | done | rfl) ?_; (with_reducible refine (HC2.out _ HF.out).mono ?_); rintro e1 v7 ⟨rfl, hb7⟩; replace HA := Aside0.mk (HA.out.on hb7); replace HE := Aside0.mk (HE.out.on hb7); replace HR := Aside0.mk (HR.out.on hb7); replace HF := Aside0.mk (HF.out.on hb7); replace HX := Aside0.mk (HX.out.on hb7); replace HO := Aside0.mk (HO.out.on hb7); replace HB := Aside0.mk (bl_on HB.out hb7 HB.out.size); replace HS := Aside0.mk (Nat.le_trans HS.out hb7.size); clear hb7; refine ⟨_, rfl, ?_⟩) | ((with_reducible refine gate_st (y := .tmp 40) rfl ?_); refine st_num (HO.out) rfl _ _ rfl rfl rfl ?_; intro v8 hA8 hT8; replace HA := Aside0.mk (HA.out.but hT8 (by first | omega | exact HNE.out | exact HNE.out.symm | (have := HG.out; have := HXgX.out; have := HXgO.out; omega))); replace HE := Aside0.mk (HE.out.but hT8 (by first | omega | exact HNE.out | exact HNE.out.symm | (have := HG.out; have := HXgX.out; have := HXgO.out; omega))); replace HR := Aside0.mk (HR.out.but hT8 (by first | omega | exact HNE.out | exact HNE.out.symm | (have := HG.out; have := HXgX.out; have := HXgO.out; omega))); replace HF := Aside0.mk (HF.out.but hT8 (by first | omega | exact HNE.out | exact HNE.out.symm | (have := HG.out; have := HXgX.out; have := HXgO.out; omega))); replace HX := Aside0.mk (HX.out.but hT8 (by first | omega | exact HNE.out | exact HNE.out.symm | (have := HG.out; have := HXgX.out; have := HXgO.out; omega))); replace HO := Aside0.mk hA8; replace HB := Aside0.mk (bl_but HB.out hT8 HB.out.size (by have := HXgO.out; omega)); replace HS := Aside0.mk (Nat.le_trans HS.out hT8.size); clear hA8 hT8))
        go_wp2
        refine ⟨⟨i, ?_, ?_, ?_, ?_, ?_, ?_, ?_, ?_, ?_, ?_⟩, ?_⟩
        · exact Nat.le_of_lt HIL.out
        · (try rw [q1])
        · exact HA
        · exact HE
        · exact HR
        · exact HF
        · exact HX
        · rw [← HR2.out]; exact HO
        · exact HB
        · exact HS
        · (try rw [q1]); exact cut_meas i
end Go.Proofs.Ytojjbcjndgekmaa
