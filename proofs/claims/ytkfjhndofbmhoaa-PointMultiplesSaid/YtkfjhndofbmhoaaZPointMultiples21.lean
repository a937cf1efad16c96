/- What the proof of PointMultiples is made of, part 21. -/
import Derived.Test.YtkfjhndofbmhoaaZPointMultiples20
import Derived.Test.YtkfjhndofbmhoaaZPointMultiples8
import Derived.Test.YtkfjhndofbmhoaaZPointMultiples23
import Derived.Test.YtkfjhndofbmhoaaZPointMultiples18
import Derived.Test.YtkfjhndofbmhoaaZPointMultiplesh
namespace Go.Proofs.Ytkfjhndofbmhoaa
open Go.RowKit Go.Proofs.Ytkfjhndofbmhoaa.Arr Go.Proofs.YtkfjhndofbmhoaaW.PrintWords Go.Proofs.YtkfjhndofbmhoaaW.PrintLast Go.Proofs.YtkfjhndofbmhoaaW.PrintMore
set_option linter.unusedVariables false
set_option linter.unusedSimpArgs false
/-- a number as the rounds take it -/
def mf (m p : Nat) : Nat := p * N256 % m
theorem nn : N512 = N256 * N256 := by unfold N256 N512; decide
theorem cancel_rn (m x R N : Nat) (h : R * N % m = 1) : x * (R * N) % m = x % m := by rw [Nat.mul_mod, h, Nat.mul_one, Nat.mod_mod]
theorem monR_sq (m x : Nat) (hm : m % 2 = 1) (h1 : 1 < m) : monR m x (N512 % m) = mf m x := by
 have h := rinv_ok m hm h1
 unfold monR mf
 rw [nn]
 generalize rinv m = R at *
 generalize N256 = N at *
 rw [Nat.mul_mod, Nat.mul_mod x, Nat.mod_mod, ← Nat.mul_mod x, ← Nat.mul_mod, show x * (N * N) * R = (x * N) * (R * N) by simp only [Nat.mul_assoc, Nat.mul_comm, Nat.mul_left_comm], cancel_rn m _ R N h]
theorem monR_lt (m a b : Nat) (h : 0 < m) : monR m a b < m := Nat.mod_lt _ h
theorem monR_mul (m x y : Nat) (hm : m % 2 = 1) (h1 : 1 < m) : monR m (monR m x y) (N512 % m) = x * y % m := by
 rw [monR_sq m _ hm h1]
 have h := rinv_ok m hm h1
 unfold mf monR
 generalize rinv m = R at *
 generalize N256 = N at *
 rw [Nat.mod_mul_mod, show x * y * R * N = x * y * (R * N) by simp only [Nat.mul_assoc], cancel_rn m _ R N h]
set_option maxRecDepth 100000 in
set_option maxHeartbeats 8000000 in
/-- (*field.Field).Mul -/
theorem fmul_calls {gf m : Nat} (a b : Nat) (w : World) (hF : FAt w gf m (turnN m) (N256 % m) (N512 % m)) (hm : m < N256) (hm1 : m % 2 = 1) (h1 : 1 < m) (ha : a < N256) (hb : b < N256) :
  Calls Try.prog 53 #[.pointer (some ⟨gf, 0, none⟩), numV a, numV b] w fun e w' => e = .returned (numV (a * b % m)) ∧ Below w.heap.size w w' := by
 have HG : Aside0 (gf < w.heap.size) := Aside0.mk hF.size
 have h0 : 0 < m := by omega
 obtain ⟨ht1, ht2⟩ := turn_ok m hm1
 have HI1 := Aside0.mk (fun (u : World) (h : FAt u gf m (turnN m) (N256 % m) (N512 % m)) => fin_calls a u h hm h0 ha)
 have HI2 := Aside0.mk (fun (u : World) (h : FAt u gf m (turnN m) (N256 % m) (N512 % m)) => fin_calls b u h hm h0 hb)
 have HM1 := Aside0.mk (fun (u : World) (h : FAt u gf m (turnN m) (N256 % m) (N512 % m)) => fmont_calls (a % m) (b % m) u h hm hm1 h1 ht1 ht2 (Nat.mod_lt a h0) (Nat.lt_trans (Nat.mod_lt b h0) hm))
 have HM2 := Aside0.mk (fun (u : World) (h : FAt u gf m (turnN m) (N256 % m) (N512 % m)) => fmont_calls (monR m (a % m) (b % m)) (N512 % m) u h hm hm1 h1 ht1 ht2 (monR_lt m _ _ h0) (Nat.lt_trans (Nat.mod_lt _ h0) hm))
 rw [monR_mul m _ _ hm1 h1, ← Nat.mul_mod] at HM2
 rw [numV_def a, numV_def b]
 generalize a * b % m = r at *
 generalize monR m (a % m) (b % m) = p at *
 generalize a % m = x at *
 generalize b % m = y at *
 generalize turnN m = t at *
 generalize N256 % m = o at *
 generalize N512 % m = s at *
 clear hm hm1 h1 ha hb h0 ht1 ht2
 go_enter Try.func53, Try.ntmps53
 go_upto_region 1 with (fail)
 refine wp_at (w2 := (World.alloc (World.alloc (World.alloc w (.cells (nw a).toArray 24)) (.cells (nw b).toArray 24)) (.cells (nw 0).toArray 24))) rfl ?_
 obtain ⟨x_0, e_0, h_0, b_0, s_0⟩ := new_num w a
 obtain ⟨x_1, e_1, h_1, b_1, s_1⟩ := new_num x_0 b
 obtain ⟨x_2, e_2, h_2, b_2, s_2⟩ := new_num x_1 0
 rw [e_0, e_1, e_2]
 rw [s_0] at h_1 s_1
 rw [s_1] at h_2 s_2
 have HB : Aside0 (Below w.heap.size w x_2) := Aside0.mk (bl_both (bl_both b_0 b_1) b_2)
 have HA : Aside0 (NAt x_2 (w.heap.size) a) := Aside0.mk ((h_0.on b_1).on b_2)
 have HB2 : Aside0 (NAt x_2 (w.heap.size + 1) b) := Aside0.mk (h_1.on b_2)
 have HR : Aside0 (NAt x_2 (w.heap.size + 1 + 1) 0) := Aside0.mk h_2
 have HS : Aside0 (w.heap.size + 1 + 1 + 1 ≤ x_2.heap.size) := Aside0.mk (Nat.le_of_eq s_2.symm)
 have HF := Aside0.mk (hF.on HB.out)
 clear e_0 h_0 b_0 s_0 e_1 h_1 b_1 s_1 e_2 h_2 b_2 s_2 hF
 obtain ⟨w1, hw_⟩ : ∃ x, x = x_2 := ⟨_, rfl⟩
 subst hw_
 clear x_0 x_1
 refine start_ (n := 15) (S := fun w' => Below w1.heap.size w1 w') (ds := [14]) (bs 15 0) (by kernel_rfl) rfl rfl ((Below.refl _ _).drew) (fun hHeld => ?_)
 refine pu_ 0 7 (bs 15 1) ?_ ?_ ?_ ?_ ?_
 rotate_left
 ·intro w'
  go_simp
  with_reducible rfl
 rotate_left
 ·simp only [aS, i64_w, i32_w]
  rfl
 refine pu_ 1 8 (bs 15 3) ?_ ?_ ?_ ?_ ?_
 rotate_left
 ·intro w'
  go_simp
  with_reducible rfl
 rotate_left
 ·simp only [aS, i64_w, i32_w]
  rfl
 refine pu_ 2 9 (bs 15 7) ?_ ?_ ?_ ?_ ?_
 rotate_left
 ·intro w'
  go_simp
  with_reducible rfl
 rotate_left
 ·simp only [aS, i64_w, i32_w]
  rfl
 refine pu_ 5 12 (bs 15 39) ?_ ?_ ?_ ?_ ?_
 rotate_left
 ·intro w'
  go_simp
  with_reducible rfl
 rotate_left
 ·simp only [aS, i64_w, i32_w]
  rfl
 refine pu_ 9 16 (bs 15 551) ?_ ?_ ?_ ?_ ?_
 rotate_left
 ·intro w'
  go_simp
  with_reducible rfl
 rotate_left
 ·simp only [aS, i64_w, i32_w]
  rfl
 refine pu_ 10 17 (bs 15 1575) ?_ ?_ ?_ ?_ ?_
 rotate_left
 ·intro w'
  go_simp
  with_reducible rfl
 rotate_left
 ·simp only [aS, i64_w, i32_w]
  rfl
 refine pu_ 11 18 (bs 15 3623) ?_ ?_ ?_ ?_ ?_
 rotate_left
 ·intro w'
  go_simp
  with_reducible rfl
 rotate_left
 ·simp only [aS, i64_w, i32_w]
  rfl
 refine take_ (i := 3) (N := some 10) (a' := ?_) (bs 15 3631) rfl rfl (by kernel_rfl) (fun _ _ _ h => h) (yields_num (g := w.heap.size) (o := 0) (n := a) (by rfl) (.tmp 4) rfl rfl (fun w' hS => (HA.out.below hS HA.out.size).range)) hHeld ?_ ?_
 rotate_left
 ·simp only [aS, i64_w, i32_w]
  rfl
 refine take_ (i := 6) (N := some 13) (a' := ?_) (bs 15 3695) rfl rfl (by kernel_rfl) (fun _ _ _ h => h) (yields_num (g := w.heap.size + 1) (o := 0) (n := b) (by rfl) (.tmp 5) rfl rfl (fun w' hS => (HB2.out.below hS HB2.out.size).range)) hHeld ?_ ?_
 rotate_left
 ·simp only [aS, i64_w, i32_w]
  rfl
 refine take_ (i := 12) (N := some 19) (a' := ?_) (bs 15 7791) rfl rfl (by kernel_rfl) (fun _ _ _ h => h) (yields_num (g := gf) (o := 9) (n := s) (by rfl) (.tmp 18) rfl rfl (fun w' hS => (HF.out.below hS HF.out.size).range9)) hHeld ?_ ?_
 rotate_left
 ·simp only [aS, i64_w, i32_w]
  rfl
 refine on1_ 4 (some 11) (bs 15 7807) rfl fun K hK => ?_
 refine gs_ Try.func71 #[.pointer (some ⟨gf, 0, none⟩), numV a] rfl ?_
 with_reducible refine (HI1.out _ (HF.out.below hHeld HF.out.size)).mono ?_
 rintro e u1 ⟨rfl, hb_u1⟩
 refine ⟨_, rfl, ?_⟩
 refine hK.out _ _ (hHeld.trans (hb_u1.mono hHeld.size)) (fun hHeld => ?_)
 clear hK K
 refine nm_ (some 11) ?_
 refine on1_ 7 (some 14) (bs 15 7935) rfl fun K hK => ?_
 refine gs_ Try.func71 #[.pointer (some ⟨gf, 0, none⟩), numV b] rfl ?_
 with_reducible refine (HI2.out _ (HF.out.below hHeld HF.out.size)).mono ?_
 rintro e u2 ⟨rfl, hb_u2⟩
 refine ⟨_, rfl, ?_⟩
 refine hK.out _ _ (hHeld.trans (hb_u2.mono hHeld.size)) (fun hHeld => ?_)
 clear hK K
 refine nm_ (some 14) ?_
 refine on1_ 8 (some 15) (bs 15 8191) rfl fun K hK => ?_
 refine gs_ Try.func74 #[.pointer (some ⟨gf, 0, none⟩), numV x, numV y] rfl ?_
 with_reducible refine (HM1.out _ (HF.out.below hHeld HF.out.size)).mono ?_
 rintro e u3 ⟨rfl, hb_u3⟩
 refine ⟨_, rfl, ?_⟩
 refine hK.out _ _ (hHeld.trans (hb_u3.mono hHeld.size)) (fun hHeld => ?_)
 clear hK K
 refine nm_ (some 15) ?_
 refine on1_ 13 (some 20) (bs 15 16383) rfl fun K hK => ?_
 refine gs_ Try.func74 #[.pointer (some ⟨gf, 0, none⟩), numV p, numV s] rfl ?_
 with_reducible refine (HM2.out _ (HF.out.below hHeld HF.out.size)).mono ?_
 rintro e u4 ⟨rfl, hb_u4⟩
 refine ⟨_, rfl, ?_⟩
 refine hK.out _ _ (hHeld.trans (hb_u4.mono hHeld.size)) (fun hHeld => ?_)
 clear hK K
 refine nm_ (some 20) ?_
 refine last_ (i := 14) (N := none) (bs 15 32767) rfl rfl (by kernel_rfl) (by decide) (fun K hK => ?_)
 refine skip_num (HR.out.below hHeld HR.out.size) (by rfl) rfl (.tmp 6) (.tmp 20) rfl rfl rfl ?_
 intro u5 hA5 hT5
 refine hK.out _ _ ?_
 clear hK K
 refine done_ (by kernel_rfl) ?_
 replace HA := Aside0.mk (HA.out.on hHeld)
 replace HB2 := Aside0.mk (HB2.out.on hHeld)
 replace HR := Aside0.mk (HR.out.on hHeld)
 replace HF := Aside0.mk (HF.out.on hHeld)
 replace HB := Aside0.mk (bl_on HB.out hHeld HB.out.size)
 replace HS := Aside0.mk (Nat.le_trans HS.out hHeld.size)
 clear hHeld hb_u1 hb_u2 hb_u3 hb_u4
 replace HA := Aside0.mk (HA.out.but hT5 (by omega))
 replace HB2 := Aside0.mk (HB2.out.but hT5 (by omega))
 replace HF := Aside0.mk (HF.out.but hT5 (by have := HG.out; omega))
 replace HR := Aside0.mk hA5
 replace HB := Aside0.mk (bl_but HB.out hT5 HB.out.size (by omega))
 replace HS := Aside0.mk (Nat.le_trans HS.out hT5.size)
 clear hA5 hT5
 go_wp2
 exact bodyPost_ret (v := numV r) (results_nat rfl rfl HR.out) rfl ⟨rfl, HB.out⟩
end Go.Proofs.Ytkfjhndofbmhoaa
namespace Go.Proofs.Ytkfjhndofbmhoaa
open Go.RowKit Go.Proofs.Ytkfjhndofbmhoaa.Arr Go.Proofs.YtkfjhndofbmhoaaW.PrintWords Go.Proofs.YtkfjhndofbmhoaaW.PrintLast Go.Proofs.YtkfjhndofbmhoaaW.PrintMore
set_option linter.unusedVariables false
set_option linter.unusedSimpArgs false
/-- the field's modulus, how many points there are, the curve's number, the base -/
def pP : Nat := 0xffffffff00000001000000000000000000000000ffffffffffffffffffffffff
def cB : Nat := 0x5ac635d8aa3a93e7b3ebbd55769886bc651d06b0cc53b0f63bce3c3e27d2604b
def gX : Nat := 0x6b17d1f2e12c4247f8bce6e563a440f277037d812deb33a0f4a13945d898c296
def gY : Nat := 0x4fe342e2fe1a7f9b8ee7eb4a7c0f9e162bce33576b315ececbb6406837bf51f5
theorem pP_lt : pP < N256 := by decide +kernel
theorem pP_pos : 0 < pP := by decide +kernel
theorem pP_one : 1 < pP := by decide +kernel
theorem pP_odd : pP % 2 = 1 := by decide +kernel
theorem cB_lt : cB < pP := by decide +kernel
theorem gX_lt : gX < pP := by decide +kernel
theorem gY_lt : gY < pP := by decide +kernel
theorem lt_N {a : Nat} (h : a < pP) : a < N256 := Nat.lt_trans h pP_lt
theorem mod_p (a : Nat) : a % pP < pP := Nat.mod_lt _ pP_pos
theorem num_lit (n a b c d : Nat) (h : wd0 n = a ∧ wd1 n = b ∧ wd2 n = c ∧ wd3 n = d) : Value.agg #[.int .u64 (a : Nat), .int .u64 (b : Nat), .int .u64 (c : Nat), .int .u64 (d : Nat)] = numV n := by
 obtain ⟨rfl, rfl, rfl, rfl⟩ := h
 rfl
/-- block gf is the field of the points -/
def CFld (w : World) (gf : Nat) : Prop := FAt w gf pP (turnN pP) (N256 % pP) (N512 % pP)
section
variable {w w' : World} {gf a b : Nat}
theorem CFld.on (h : CFld w gf) (hb : Below w.heap.size w w') : CFld w' gf := FAt.on h hb
theorem CFld.size (h : CFld w gf) : gf < w.heap.size := FAt.size h
theorem CFld.but {g : Nat} (h : CFld w gf) (hb : But w.heap.size g w w') (hg : gf ≠ g) : CFld w' gf := FAt.but h hb hg
theorem padd_calls (ha : a < pP) (hb : b < pP) (w : World) (h : CFld w gf) :
  Calls Try.prog 51 #[.pointer (some ⟨gf, 0, none⟩), numV a, numV b] w fun e w' => e = .returned (numV ((a + b) % pP)) ∧ Below w.heap.size w w' := by
 have := fieldadd_calls a b w h pP_lt pP_pos (lt_N ha) (lt_N hb)
 rw [Nat.mod_eq_of_lt ha, Nat.mod_eq_of_lt hb] at this
 exact this
theorem psub_calls (ha : a < pP) (hb : b < pP) (w : World) (h : CFld w gf) :
  Calls Try.prog 52 #[.pointer (some ⟨gf, 0, none⟩), numV a, numV b] w fun e w' => e = .returned (numV ((a + pP - b) % pP)) ∧ Below w.heap.size w w' := by
 have := fieldsub_calls a b w h pP_lt pP_pos (lt_N ha) (lt_N hb)
 rw [Nat.mod_eq_of_lt ha, Nat.mod_eq_of_lt hb] at this
 exact this
theorem pmul_calls (ha : a < pP) (hb : b < pP) (w : World) (h : CFld w gf) :
  Calls Try.prog 53 #[.pointer (some ⟨gf, 0, none⟩), numV a, numV b] w fun e w' => e = .returned (numV (a * b % pP)) ∧ Below w.heap.size w w' :=
 fmul_calls a b w h pP_lt pP_odd pP_one (lt_N ha) (lt_N hb)
theorem pinv_calls (ha : a < pP) (w : World) (h : CFld w gf) :
  Calls Try.prog 58 #[.pointer (some ⟨gf, 0, none⟩), numV a] w fun e w' => e = .returned (.tuple #[numV (invV pP a), invE pP a]) ∧ Below w.heap.size w w' :=
 finv_calls a w h pP_lt pP_odd pP_one (lt_N ha)
end
set_option maxRecDepth 100000 in
set_option maxHeartbeats 8000000 in
theorem cp_calls (w : World) :
  Calls Try.prog 14 #[] w fun e w' => e = .returned (numV pP) ∧ Below w.heap.size w w' := by
 have e1 := num_lit pP 18446744073709551615 4294967295 0 18446744069414584321 (by decide +kernel)
 obtain ⟨n, hn⟩ : ∃ n, n = pP := ⟨_, rfl⟩
 rw [← hn] at e1 ⊢
 clear hn
 go_enter Try.func14, Try.ntmps14
 go_upto_region 1 with (fail)
 refine wp_at (w2 := (World.alloc w (.cells (nw 0).toArray 24))) rfl ?_
 obtain ⟨x_0, e_0, h_0, b_0, s_0⟩ := new_num w 0
 rw [e_0]
 have HB : Aside0 (Below w.heap.size w x_0) := Aside0.mk b_0
 have HR : Aside0 (NAt x_0 (w.heap.size) 0) := Aside0.mk h_0
 have HS : Aside0 (w.heap.size + 1 ≤ x_0.heap.size) := Aside0.mk (Nat.le_of_eq s_0.symm)
 clear e_0 h_0 b_0 s_0
 obtain ⟨w1, hw_⟩ : ∃ x, x = x_0 := ⟨_, rfl⟩
 subst hw_
 go_wp2_with (first | ((with_reducible refine gate_st (y := .tmp 1) rfl ?_); refine st_num HR.out rfl _ _ rfl rfl e1 ?_; intro u2 hA2 hT2; replace HB := Aside0.mk (bl_but HB.out hT2 HB.out.size (by omega)); replace HR := Aside0.mk hA2; clear hA2 hT2))
 exact bodyPost_ret (v := numV n) (results_nat rfl rfl HR.out) rfl ⟨rfl, HB.out⟩
set_option maxRecDepth 100000 in
set_option maxHeartbeats 8000000 in
theorem cb_calls (w : World) :
  Calls Try.prog 57 #[] w fun e w' => e = .returned (numV cB) ∧ Below w.heap.size w w' := by
 have e1 := num_lit cB 4309448131093880907 7285987128567378166 12964664127075681980 6540974713487397863 (by decide +kernel)
 obtain ⟨n, hn⟩ : ∃ n, n = cB := ⟨_, rfl⟩
 rw [← hn] at e1 ⊢
 clear hn
 go_enter Try.func57, Try.ntmps57
 go_upto_region 1 with (fail)
 refine wp_at (w2 := (World.alloc w (.cells (nw 0).toArray 24))) rfl ?_
 obtain ⟨x_0, e_0, h_0, b_0, s_0⟩ := new_num w 0
 rw [e_0]
 have HB : Aside0 (Below w.heap.size w x_0) := Aside0.mk b_0
 have HR : Aside0 (NAt x_0 (w.heap.size) 0) := Aside0.mk h_0
 have HS : Aside0 (w.heap.size + 1 ≤ x_0.heap.size) := Aside0.mk (Nat.le_of_eq s_0.symm)
 clear e_0 h_0 b_0 s_0
 obtain ⟨w1, hw_⟩ : ∃ x, x = x_0 := ⟨_, rfl⟩
 subst hw_
 go_wp2_with (first | ((with_reducible refine gate_st (y := .tmp 1) rfl ?_); refine st_num HR.out rfl _ _ rfl rfl e1 ?_; intro u2 hA2 hT2; replace HB := Aside0.mk (bl_but HB.out hT2 HB.out.size (by omega)); replace HR := Aside0.mk hA2; clear hA2 hT2))
 exact bodyPost_ret (v := numV n) (results_nat rfl rfl HR.out) rfl ⟨rfl, HB.out⟩
set_option maxRecDepth 100000 in
set_option maxHeartbeats 8000000 in
theorem rcp_calls (w : World) :
  Calls Try.prog 15 #[] w fun e w' => e = .returned (numV pP) ∧ Below w.heap.size w w' := by
 have e1 := num_lit pP 18446744073709551615 4294967295 0 18446744069414584321 (by decide +kernel)
 obtain ⟨n, hn⟩ : ∃ n, n = pP := ⟨_, rfl⟩
 rw [← hn] at e1 ⊢
 clear hn
 go_enter Try.func15, Try.ntmps15
 go_upto_region 1 with (fail)
 refine wp_at (w2 := (World.alloc w (.cells (nw 0).toArray 24))) rfl ?_
 obtain ⟨x_0, e_0, h_0, b_0, s_0⟩ := new_num w 0
 rw [e_0]
 have HB : Aside0 (Below w.heap.size w x_0) := Aside0.mk b_0
 have HR : Aside0 (NAt x_0 (w.heap.size) 0) := Aside0.mk h_0
 have HS : Aside0 (w.heap.size + 1 ≤ x_0.heap.size) := Aside0.mk (Nat.le_of_eq s_0.symm)
 clear e_0 h_0 b_0 s_0
 obtain ⟨w1, hw_⟩ : ∃ x, x = x_0 := ⟨_, rfl⟩
 subst hw_
 go_wp2_with (first | ((with_reducible refine gate_st (y := .tmp 1) rfl ?_); refine st_num HR.out rfl _ _ rfl rfl e1 ?_; intro u2 hA2 hT2; replace HB := Aside0.mk (bl_but HB.out hT2 HB.out.size (by omega)); replace HR := Aside0.mk hA2; clear hA2 hT2))
 exact bodyPost_ret (v := numV n) (results_nat rfl rfl HR.out) rfl ⟨rfl, HB.out⟩
set_option maxRecDepth 100000 in
set_option maxHeartbeats 8000000 in
theorem rcb_calls (w : World) :
  Calls Try.prog 38 #[] w fun e w' => e = .returned (numV cB) ∧ Below w.heap.size w w' := by
 have e1 := num_lit cB 4309448131093880907 7285987128567378166 12964664127075681980 6540974713487397863 (by decide +kernel)
 obtain ⟨n, hn⟩ : ∃ n, n = cB := ⟨_, rfl⟩
 rw [← hn] at e1 ⊢
 clear hn
 go_enter Try.func38, Try.ntmps38
 go_upto_region 1 with (fail)
 refine wp_at (w2 := (World.alloc w (.cells (nw 0).toArray 24))) rfl ?_
 obtain ⟨x_0, e_0, h_0, b_0, s_0⟩ := new_num w 0
 rw [e_0]
 have HB : Aside0 (Below w.heap.size w x_0) := Aside0.mk b_0
 have HR : Aside0 (NAt x_0 (w.heap.size) 0) := Aside0.mk h_0
 have HS : Aside0 (w.heap.size + 1 ≤ x_0.heap.size) := Aside0.mk (Nat.le_of_eq s_0.symm)
 clear e_0 h_0 b_0 s_0
 obtain ⟨w1, hw_⟩ : ∃ x, x = x_0 := ⟨_, rfl⟩
 subst hw_
 go_wp2_with (first | ((with_reducible refine gate_st (y := .tmp 1) rfl ?_); refine st_num HR.out rfl _ _ rfl rfl e1 ?_; intro u2 hA2 hT2; replace HB := Aside0.mk (bl_but HB.out hT2 HB.out.size (by omega)); replace HR := Aside0.mk hA2; clear hA2 hT2))
 exact bodyPost_ret (v := numV n) (results_nat rfl rfl HR.out) rfl ⟨rfl, HB.out⟩
end Go.Proofs.Ytkfjhndofbmhoaa
namespace Go.Proofs.Ytkfjhndofbmhoaa
open Go.RowKit Go.Proofs.Ytkfjhndofbmhoaa.Arr Go.Proofs.YtkfjhndofbmhoaaW.PrintWords Go.Proofs.YtkfjhndofbmhoaaW.PrintLast Go.Proofs.YtkfjhndofbmhoaaW.PrintMore
attribute [local go_sem high] eqg_num eqg_num0
set_option linter.unusedVariables false
set_option linter.unusedSimpArgs false
set_option maxRecDepth 100000 in
set_option maxHeartbeats 8000000 in
theorem psquare_calls {gf : Nat} {a : Nat} (b_a : a < pP) (w : World) (hF : CFld w gf) :
  Calls Try.prog 55 #[cvV gf, numV a] w fun e w' => e = .returned (numV (a * a % pP)) ∧ Below w.heap.size w w' := by
 have HG : Aside0 (gf < w.heap.size) := Aside0.mk hF.size
 obtain ⟨t1, e_t1⟩ : ∃ t, t = a * a % pP := ⟨_, rfl⟩
 have b_t1 : t1 < pP := by rw [e_t1]; exact mod_p _
 have K1 := Aside0.mk (fun (u : World) (h : CFld u gf) => pmul_calls b_a b_a u h)
 rw [← e_t1] at K1
 have hres : a * a % pP = t1 := by subst e_t1; rfl
 rw [hres]
 clear hres e_t1 b_t1 b_a
 go_enter Try.func55, Try.ntmps55
 go_upto_region 1 with (fail)
 refine wp_at (w2 := (World.alloc (World.alloc (World.alloc w (.cells (cvl gf).toArray 58)) (.cells (nw a).toArray 24)) (.cells (nw 0).toArray 24))) rfl ?_
 obtain ⟨x_0, e_0, h_0, b_0, s_0⟩ := new_CvAt w gf
 obtain ⟨x_1, e_1, h_1, b_1, s_1⟩ := new_num x_0 a
 obtain ⟨x_2, e_2, h_2, b_2, s_2⟩ := new_num x_1 0
 rw [e_0, e_1, e_2]
 rw [s_0] at h_1 s_1
 rw [s_1] at h_2 s_2
 have HB : Aside0 (Below w.heap.size w x_2) := Aside0.mk (bl_both (bl_both b_0 b_1) b_2)
 have HC : Aside0 (CvAt x_2 (w.heap.size) gf) := Aside0.mk ((h_0.on b_1).on b_2)
 have HA : Aside0 (NAt x_2 (w.heap.size + 1) a) := Aside0.mk (h_1.on b_2)
 have HR : Aside0 (NAt x_2 (w.heap.size + 1 + 1) 0) := Aside0.mk h_2
 have HS : Aside0 (w.heap.size + 1 + 1 + 1 ≤ x_2.heap.size) := Aside0.mk (Nat.le_of_eq s_2.symm)
 have HF := Aside0.mk (hF.on HB.out)
 clear e_0 h_0 b_0 s_0 e_1 h_1 b_1 s_1 e_2 h_2 b_2 s_2 hF
 obtain ⟨w1, hw_⟩ : ∃ x, x = x_2 := ⟨_, rfl⟩
 subst hw_
 clear x_0 x_1
 have cq0 := HC.out.c3
 go_wp2_with (first | ((with_reducible refine gate_dst (N := 7) rfl ?_); refine ld_num (HA.out.range) rfl _ rfl rfl ?_) | ((with_reducible refine gate_dst (N := 8) rfl ?_); refine ld_num (HA.out.range) rfl _ rfl rfl ?_) | ((with_reducible refine gate_dst (N := 9) rfl ?_); refine goesFL_ (some 9) rfl rfl (.tmp 6) Try.func53 (by kernel_rfl) rfl gf (numV a) (numV a) rfl rfl (by (try simp only [List.map_toArray, List.map_cons, List.map_nil]); first | done | rfl) ?_; (with_reducible refine (K1.out _ (HF.out)).mono ?_); rintro e u1 ⟨rfl, hb_⟩; refine ⟨_, rfl, ?_⟩; replace HC := Aside0.mk (HC.out.on hb_); replace HA := Aside0.mk (HA.out.on hb_); replace HR := Aside0.mk (HR.out.on hb_); replace HF := Aside0.mk (HF.out.on hb_); replace HB := Aside0.mk (bl_on HB.out hb_ HB.out.size); replace HS := Aside0.mk (Nat.le_trans HS.out hb_.size); replace cq0 := HC.out.c3; clear hb_) | ((with_reducible refine gate_st (y := .tmp 9) rfl ?_); (try simp only [aS]); refine st_num HR.out rfl _ _ rfl rfl rfl ?_; intro u2 hn_ hb_; replace HC := Aside0.mk (HC.out.but hb_ (by have := HG.out; omega)); replace HA := Aside0.mk (HA.out.but hb_ (by have := HG.out; omega)); replace HF := Aside0.mk (HF.out.but hb_ (by have := HG.out; omega)); replace HR := Aside0.mk hn_; replace HB := Aside0.mk (bl_but HB.out hb_ HB.out.size (by have := HG.out; omega)); replace HS := Aside0.mk (Nat.le_trans HS.out hb_.size); replace cq0 := HC.out.c3; clear hn_ hb_))
 clear cq0
 exact bodyPost_ret (v := numV t1) (results_nat rfl rfl HR.out) rfl ⟨rfl, HB.out⟩
theorem num_small (n : Nat) (hn : n < 18446744073709551616) : numV n = .agg #[.int .u64 (n : Int), .int .u64 0, .int .u64 0, .int .u64 0] := by
 rw [numV_def]
 have h0 : wd0 n = n := by unfold wd0; omega
 have h1 : wd1 n = 0 := by unfold wd1; omega
 have h2 : wd2 n = 0 := by unfold wd2; omega
 have h3 : wd3 n = 0 := by unfold wd3; omega
 rw [h0, h1, h2, h3]
 rfl
set_option maxRecDepth 100000 in
set_option maxHeartbeats 8000000 in
theorem ptimes_calls {gf : Nat} {a n : Nat} (b_a : a < pP) (b_n : n < pP) (hn : n < 18446744073709551616) (w : World) (hF : CFld w gf) :
  Calls Try.prog 56 #[cvV gf, numV a, .int .u64 (n : Int)] w fun e w' => e = .returned (numV (a * n % pP)) ∧ Below w.heap.size w w' := by
 have HG : Aside0 (gf < w.heap.size) := Aside0.mk hF.size
 obtain ⟨t1, e_t1⟩ : ∃ t, t = a * n % pP := ⟨_, rfl⟩
 have b_t1 : t1 < pP := by rw [e_t1]; exact mod_p _
 have K1 := Aside0.mk (fun (u : World) (h : CFld u gf) => pmul_calls b_a b_n u h)
 rw [← e_t1] at K1
 have hres : a * n % pP = t1 := by subst e_t1; rfl
 rw [hres]
 rw [num_small n hn] at K1
 clear hres e_t1 b_t1 b_a b_n hn
 go_enter Try.func56, Try.ntmps56
 go_upto_region 1 with (fail)
 refine wp_at (w2 := (World.alloc (World.alloc (World.alloc w (.cells (cvl gf).toArray 58)) (.cells (nw a).toArray 24)) (.cells (nw 0).toArray 24))) rfl ?_
 obtain ⟨x_0, e_0, h_0, b_0, s_0⟩ := new_CvAt w gf
 obtain ⟨x_1, e_1, h_1, b_1, s_1⟩ := new_num x_0 a
 obtain ⟨x_2, e_2, h_2, b_2, s_2⟩ := new_num x_1 0
 rw [e_0, e_1, e_2]
 rw [s_0] at h_1 s_1
 rw [s_1] at h_2 s_2
 have HB : Aside0 (Below w.heap.size w x_2) := Aside0.mk (bl_both (bl_both b_0 b_1) b_2)
 have HC : Aside0 (CvAt x_2 (w.heap.size) gf) := Aside0.mk ((h_0.on b_1).on b_2)
 have HA : Aside0 (NAt x_2 (w.heap.size + 1) a) := Aside0.mk (h_1.on b_2)
 have HR : Aside0 (NAt x_2 (w.heap.size + 1 + 1) 0) := Aside0.mk h_2
 have HS : Aside0 (w.heap.size + 1 + 1 + 1 ≤ x_2.heap.size) := Aside0.mk (Nat.le_of_eq s_2.symm)
 have HF := Aside0.mk (hF.on HB.out)
 clear e_0 h_0 b_0 s_0 e_1 h_1 b_1 s_1 e_2 h_2 b_2 s_2 hF
 obtain ⟨w1, hw_⟩ : ∃ x, x = x_2 := ⟨_, rfl⟩
 subst hw_
 clear x_0 x_1
 have cq0 := HC.out.c3
 go_wp2_with (first | ((with_reducible refine gate_dst (N := 9) rfl ?_); refine ld_num (HA.out.range) rfl _ rfl rfl ?_) | ((with_reducible refine gate_dst (N := 12) rfl ?_); refine goesFL_ (some 12) rfl rfl (.tmp 8) Try.func53 (by kernel_rfl) rfl gf (numV a) (.agg #[.int .u64 (n : Int), .int .u64 0, .int .u64 0, .int .u64 0]) rfl rfl (by (try simp only [List.map_toArray, List.map_cons, List.map_nil]); first | done | rfl) ?_; (with_reducible refine (K1.out _ (HF.out)).mono ?_); rintro e u3 ⟨rfl, hb_⟩; refine ⟨_, rfl, ?_⟩; replace HC := Aside0.mk (HC.out.on hb_); replace HA := Aside0.mk (HA.out.on hb_); replace HR := Aside0.mk (HR.out.on hb_); replace HF := Aside0.mk (HF.out.on hb_); replace HB := Aside0.mk (bl_on HB.out hb_ HB.out.size); replace HS := Aside0.mk (Nat.le_trans HS.out hb_.size); replace cq0 := HC.out.c3; clear hb_) | ((with_reducible refine gate_st (y := .tmp 12) rfl ?_); (try simp only [aS]); refine st_num HR.out rfl _ _ rfl rfl rfl ?_; intro u4 hn_ hb_; replace HC := Aside0.mk (HC.out.but hb_ (by have := HG.out; omega)); replace HA := Aside0.mk (HA.out.but hb_ (by have := HG.out; omega)); replace HF := Aside0.mk (HF.out.but hb_ (by have := HG.out; omega)); replace HR := Aside0.mk hn_; replace HB := Aside0.mk (bl_but HB.out hb_ HB.out.size (by have := HG.out; omega)); replace HS := Aside0.mk (Nat.le_trans HS.out hb_.size); replace cq0 := HC.out.c3; clear hn_ hb_))
 clear cq0
 exact bodyPost_ret (v := numV t1) (results_nat rfl rfl HR.out) rfl ⟨rfl, HB.out⟩
end Go.Proofs.Ytkfjhndofbmhoaa
