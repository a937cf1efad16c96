/- The field's step; one round of the product by 2^256. -/
import Derived.Test.YtojjbcjndgekmaaFs
import Derived.Test.YtojjbcjndgekmaaFa
import Derived.Test.YtojjbcjndgekmaaFl
namespace Go.Proofs.Ytojjbcjndgekmaa
open Go.RowKit Go.Proofs.Ytojjbcjndgekmaa.Arr Go.Proofs.YtojjbcjndgekmaaW.PrintWords Go.Proofs.YtojjbcjndgekmaaW.PrintLast Go.Proofs.YtojjbcjndgekmaaW.PrintMore
set_option linter.unusedVariables false
set_option linter.unusedSimpArgs false
theorem step_eq (x y a b : Nat) (l h : Int) (hl : 0 ≤ l) (hl2 : l < 18446744073709551616) (e : (x : Int) * (y : Int) + (a : Int) + (b : Int) = l + 18446744073709551616 * h) :
    l = ((((x * y + a + b) % 18446744073709551616 : Nat)) : Int) ∧ h = ((((x * y + a + b) / 18446744073709551616 : Nat)) : Int) := by
  rw [← Int.natCast_mul] at e
  generalize x * y = p at *
  omega
set_option maxRecDepth 100000 in
set_option maxHeartbeats 4000000 in
/-- field.step -/
theorem step_calls (x y a b : Nat) (hx : x < 18446744073709551616) (hy : y < 18446744073709551616) (ha : a < 18446744073709551616) (hb : b < 18446744073709551616) (w : World) :
    Calls Try.prog 49 #[.int .u64 (x : Nat), .int .u64 (y : Nat), .int .u64 (a : Nat), .int .u64 (b : Nat)] w fun e w' => e = .returned (.tuple #[.int .u64 (((x * y + a + b) % 18446744073709551616 : Nat) : Int), .int .u64 (((x * y + a + b) / 18446744073709551616 : Nat) : Int)]) ∧ w = w' := by
  obtain ⟨h, l, l1, c1, h1, l2, c2, h2, hm, e1, e2, e3, e4, b1, b2, b3, b4, hk⟩ := round_facts (x : Int) (y : Int) (a : Int) (b : Int) (by omega) (by omega) (by omega) (by omega) (by omega) (by omega) (by omega) (by omega)
  obtain ⟨r1, r2⟩ := step_eq x y a b l2 h2 b1 b2 hk.out
  rw [← r1, ← r2]
  clear r1 r2 b1 b2 b3 b4 hx hy ha hb hk
  go_enter Try.func49, Try.ntmps49
  go_wp2_with (first | ((with_reducible refine gate_callee (f := 43) rfl ?_); refine goesL_ (some 16) rfl rfl Try.func43 (by kernel_rfl) rfl #[.int .u64 (x : Nat), .int .u64 (y : Nat)] rfl (by (try simp only [List.map_toArray, List.map_cons, List.map_nil]); first | done | rfl) ?_; (with_reducible refine (hm.out _).mono ?_); rintro e w2 ⟨rfl, rfl⟩; refine ⟨_, rfl, ?_⟩))
  go_ret2
  exact ⟨rfl, rfl⟩
/-- block g is six words -/
def tw (t0 t1 t2 t3 t4 t5 : Nat) : List Value := [.int .u64 (t0 : Nat), .int .u64 (t1 : Nat), .int .u64 (t2 : Nat), .int .u64 (t3 : Nat), .int .u64 (t4 : Nat), .int .u64 (t5 : Nat)]
def TAt (w : World) (g t0 t1 t2 t3 t4 t5 : Nat) : Prop := Row 64 w g (tw t0 t1 t2 t3 t4 t5)
section
variable {w w' : World} {g t0 t1 t2 t3 t4 t5 : Nat}
theorem TAt.size (h : TAt w g t0 t1 t2 t3 t4 t5) : g < w.heap.size := Row.size h
theorem TAt.on (h : TAt w g t0 t1 t2 t3 t4 t5) (hb : Below w.heap.size w w') : TAt w' g t0 t1 t2 t3 t4 t5 := Row.below h hb h.size
theorem TAt.but {g1 : Nat} (h : TAt w g t0 t1 t2 t3 t4 t5) (hb : But w.heap.size g1 w w') (hg : g ≠ g1) : TAt w' g t0 t1 t2 t3 t4 t5 := Row.block h (hb.block g h.size hg)
theorem TAt.cell (h : TAt w g t0 t1 t2 t3 t4 t5) : w.cell? ⟨g, 0, none⟩ = some (.int .u64 (t0 : Nat)) ∧ w.cell? ⟨g, 1, none⟩ = some (.int .u64 (t1 : Nat)) ∧ w.cell? ⟨g, 2, none⟩ = some (.int .u64 (t2 : Nat)) ∧ w.cell? ⟨g, 3, none⟩ = some (.int .u64 (t3 : Nat)) ∧ w.cell? ⟨g, 4, none⟩ = some (.int .u64 (t4 : Nat)) ∧ w.cell? ⟨g, 5, none⟩ = some (.int .u64 (t5 : Nat)) := ⟨Row.cell h _ _ rfl, Row.cell h _ _ rfl, Row.cell h _ _ rfl, Row.cell h _ _ rfl, Row.cell h _ _ rfl, Row.cell h _ _ rfl⟩
theorem TAt.free (h : TAt w g t0 t1 t2 t3 t4 t5) (i : Nat) : w.frozen? ⟨g, i, none⟩ = false := Row.free h i
theorem TAt.set0 (h : TAt w g t0 t1 t2 t3 t4 t5) (v : Nat) : TAt (w.setCell ⟨g, 0, none⟩ (.int .u64 (v : Nat))) g v t1 t2 t3 t4 t5 := Row.set h 0 _
theorem TAt.set1 (h : TAt w g t0 t1 t2 t3 t4 t5) (v : Nat) : TAt (w.setCell ⟨g, 1, none⟩ (.int .u64 (v : Nat))) g t0 v t2 t3 t4 t5 := Row.set h 1 _
theorem TAt.set2 (h : TAt w g t0 t1 t2 t3 t4 t5) (v : Nat) : TAt (w.setCell ⟨g, 2, none⟩ (.int .u64 (v : Nat))) g t0 t1 v t3 t4 t5 := Row.set h 2 _
theorem TAt.set3 (h : TAt w g t0 t1 t2 t3 t4 t5) (v : Nat) : TAt (w.setCell ⟨g, 3, none⟩ (.int .u64 (v : Nat))) g t0 t1 t2 v t4 t5 := Row.set h 3 _
theorem TAt.set4 (h : TAt w g t0 t1 t2 t3 t4 t5) (v : Nat) : TAt (w.setCell ⟨g, 4, none⟩ (.int .u64 (v : Nat))) g t0 t1 t2 t3 v t5 := Row.set h 4 _
theorem TAt.set5 (h : TAt w g t0 t1 t2 t3 t4 t5) (v : Nat) : TAt (w.setCell ⟨g, 5, none⟩ (.int .u64 (v : Nat))) g t0 t1 t2 t3 t4 v := Row.set h 5 _
theorem new_six (w : World) : ∃ w1, w.alloc (.cells (tw 0 0 0 0 0 0).toArray 64) = w1 ∧ TAt w1 w.heap.size 0 0 0 0 0 0 ∧ Below w.heap.size w w1 ∧ w1.heap.size = w.heap.size + 1 :=
  ⟨_, rfl, Row.new w _ _, below_alloc (Below.refl _ _) _, by simp⟩
end
/-- a word of a number, by its place -/
theorem run_index_num (b i : Nat) (hi : i < 4) : (nw b)[i]? = some (.int .u64 (xw b i : Nat)) := nw_get b i hi
/-- five words' number -/
def val5 (t0 t1 t2 t3 t4 : Nat) : Nat := t0 + 18446744073709551616 * t1 + 340282366920938463463374607431768211456 * t2 + 6277101735386680763835789423207666416102355444464034512896 * t3 + 115792089237316195423570985008687907853269984665640564039457584007913129639936 * t4
/-- what a round keeps -/
structure MonI (m a b i t0 t1 t2 t3 t4 : Nat) : Prop where
  l0 : t0 < 18446744073709551616
  l1 : t1 < 18446744073709551616
  l2 : t2 < 18446744073709551616
  l3 : t3 < 18446744073709551616
  l4 : t4 < 18446744073709551616
  lt : val5 t0 t1 t2 t3 t4 < a + m
  eq : val5 t0 t1 t2 t3 t4 * 2 ^ (64 * i) % m = a * (b % 2 ^ (64 * i)) % m
theorem low_zero (u t n q : Nat) (hq : q = u * t % 18446744073709551616) (ht : (t * n + 1) % 18446744073709551616 = 0) : (q * n + u) % 18446744073709551616 = 0 := by
  rw [hq, Nat.add_mod, Nat.mod_mul_mod, ← Nat.add_mod, Nat.mul_assoc, show u * (t * n) + u = u * (t * n + 1) by rw [Nat.mul_add, Nat.mul_one], Nat.mul_mod, ht, Nat.mul_zero, Nat.zero_mod]
theorem words_mul (a0 a1 a2 a3 y : Nat) : val4 a0 a1 a2 a3 * y = a0 * y + 18446744073709551616 * (a1 * y) + 340282366920938463463374607431768211456 * (a2 * y) + 6277101735386680763835789423207666416102355444464034512896 * (a3 * y) := by
  unfold val4
  rw [Nat.add_mul, Nat.add_mul, Nat.add_mul, Nat.mul_assoc, Nat.mul_assoc, Nat.mul_assoc]
/-- the sum of a round -/
theorem round_sum (V ay qm P0 P1 P2 P3 Q0 Q1 Q2 Q3 t0 t1 t2 t3 t4 u0 u1 u2 u3 u4 u5 c1 c2 c3 c4 d1 d2 d3 d4 v0 v1 v2 v3 c : Nat)
    (hV : V = val5 t0 t1 t2 t3 t4) (hay : ay = P0 + 18446744073709551616 * P1 + 340282366920938463463374607431768211456 * P2 + 6277101735386680763835789423207666416102355444464034512896 * P3)
    (hqm : qm = Q0 + 18446744073709551616 * Q1 + 340282366920938463463374607431768211456 * Q2 + 6277101735386680763835789423207666416102355444464034512896 * Q3)
    (e0 : P0 + t0 + 0 = u0 + 18446744073709551616 * c1) (e1 : P1 + t1 + c1 = u1 + 18446744073709551616 * c2) (e2 : P2 + t2 + c2 = u2 + 18446744073709551616 * c3) (e3 : P3 + t3 + c3 = u3 + 18446744073709551616 * c4)
    (e4 : t4 + c4 = u4 + 18446744073709551616 * u5) (g0 : Q0 + u0 + 0 = 18446744073709551616 * d1) (g1 : Q1 + u1 + d1 = v0 + 18446744073709551616 * d2) (g2 : Q2 + u2 + d2 = v1 + 18446744073709551616 * d3) (g3 : Q3 + u3 + d3 = v2 + 18446744073709551616 * d4)
    (g4 : u4 + d4 = v3 + 18446744073709551616 * c) : 18446744073709551616 * val5 v0 v1 v2 v3 (u5 + c) = V + ay + qm := by
  rw [hV, hay, hqm]
  unfold val5
  omega
theorem split_mod (x B : Nat) : x = x % B + B * (x / B) := by have := Nat.div_add_mod x B; omega
theorem bits_next (b i : Nat) : b % 2 ^ (64 * (i + 1)) = b % 2 ^ (64 * i) + 2 ^ (64 * i) * xw b i := by
  unfold xw
  rw [Nat.mul_add, Nat.mul_one, Nat.pow_add, Nat.mod_mul]
theorem round_eq (m a b i V V' y q : Nat) (hy : y = xw b i) (hs : 18446744073709551616 * V' = V + a * y + q * m) (h : V * 2 ^ (64 * i) % m = a * (b % 2 ^ (64 * i)) % m) : V' * 2 ^ (64 * (i + 1)) % m = a * (b % 2 ^ (64 * (i + 1))) % m := by
  have e1 : V' * 2 ^ (64 * (i + 1)) = (V * 2 ^ (64 * i) + a * y * 2 ^ (64 * i)) + m * (q * 2 ^ (64 * i)) := by
    rw [Nat.mul_add 64 i 1, Nat.mul_one, Nat.pow_add, show (2 : Nat) ^ 64 = 18446744073709551616 from by decide]
    generalize 2 ^ (64 * i) = p
    rw [show V' * (p * 18446744073709551616) = (18446744073709551616 * V') * p by rw [Nat.mul_comm p, ← Nat.mul_assoc, Nat.mul_comm V'], hs, Nat.add_mul, Nat.add_mul, show q * m * p = m * (q * p) by rw [Nat.mul_comm q m, Nat.mul_assoc]]
  rw [e1, Nat.add_mul_mod_self_left, bits_next, Nat.mul_add, Nat.add_mod, h, ← Nat.add_mod, ← hy, Nat.mul_assoc a y, Nat.mul_comm y]
theorem round_lt (m a y q V V' : Nat) (hV : V < a + m) (hy : y < 18446744073709551616) (hq : q < 18446744073709551616) (hs : 18446744073709551616 * V' = V + a * y + q * m) : V' < a + m := by
  have h1 : a * y ≤ a * 18446744073709551615 := Nat.mul_le_mul_left a (by omega)
  have h2 : q * m ≤ 18446744073709551615 * m := Nat.mul_le_mul_right m (by omega)
  omega
theorem MonI.start (m a b : Nat) (ha : 0 < a + m) : MonI m a b 0 0 0 0 0 0 := by
  refine ⟨by decide, by decide, by decide, by decide, by decide, ?_, ?_⟩
  · unfold val5; omega
  · rw [Nat.mul_zero, Nat.pow_zero, Nat.mod_one, Nat.mul_zero]
    unfold val5
    simp
/-- one round, of words -/
theorem MonI.step {m a b i t0 t1 t2 t3 t4 y q tu u0 u1 u2 u3 u4 u5 c1 c2 c3 c4 z0 d1 d2 d3 d4 v0 v1 v2 v3 c : Nat} (h : MonI m a b i t0 t1 t2 t3 t4) (hm : m < N256) (ha : a < m) (hi : i < 4)
    (ht : (tu * wd0 m + 1) % 18446744073709551616 = 0) (hy : y = xw b i)
    (e0 : u0 = (wd0 a * y + t0 + 0) % 18446744073709551616) (f0 : c1 = (wd0 a * y + t0 + 0) / 18446744073709551616) (e1 : u1 = (wd1 a * y + t1 + c1) % 18446744073709551616) (f1 : c2 = (wd1 a * y + t1 + c1) / 18446744073709551616)
    (e2 : u2 = (wd2 a * y + t2 + c2) % 18446744073709551616) (f2 : c3 = (wd2 a * y + t2 + c2) / 18446744073709551616) (e3 : u3 = (wd3 a * y + t3 + c3) % 18446744073709551616) (f3 : c4 = (wd3 a * y + t3 + c3) / 18446744073709551616)
    (e4 : u4 = (t4 + c4) % 18446744073709551616) (f4 : u5 = (t4 + c4) / 18446744073709551616) (hq : q = u0 * tu % 18446744073709551616)
    (g0 : z0 = (q * wd0 m + u0 + 0) % 18446744073709551616) (k0 : d1 = (q * wd0 m + u0 + 0) / 18446744073709551616) (g1 : v0 = (q * wd1 m + u1 + d1) % 18446744073709551616) (k1 : d2 = (q * wd1 m + u1 + d1) / 18446744073709551616)
    (g2 : v1 = (q * wd2 m + u2 + d2) % 18446744073709551616) (k2 : d3 = (q * wd2 m + u2 + d2) / 18446744073709551616) (g3 : v2 = (q * wd3 m + u3 + d3) % 18446744073709551616) (k3 : d4 = (q * wd3 m + u3 + d3) / 18446744073709551616)
    (g4 : v3 = (u4 + d4) % 18446744073709551616) (k4 : c = (u4 + d4) / 18446744073709551616) : u5 + c < 18446744073709551616 ∧ MonI m a b (i + 1) v0 v1 v2 v3 (u5 + c) := by
  have haN : a < N256 := Nat.lt_trans ha hm
  have hB : (0 : Nat) < 18446744073709551616 := by decide
  have hz := low_zero u0 tu (wd0 m) q hq ht
  have hs := round_sum (val5 t0 t1 t2 t3 t4) (a * y) (q * m) (wd0 a * y) (wd1 a * y) (wd2 a * y) (wd3 a * y) (q * wd0 m) (q * wd1 m) (q * wd2 m) (q * wd3 m) t0 t1 t2 t3 t4 u0 u1 u2 u3 u4 u5 c1 c2 c3 c4 d1 d2 d3 d4 v0 v1 v2 v3 c rfl
    (by have h1 := words_mul (wd0 a) (wd1 a) (wd2 a) (wd3 a) y; rw [val_wd haN] at h1; exact h1)
    (by have h1 := words_mul (wd0 m) (wd1 m) (wd2 m) (wd3 m) q; rw [val_wd hm] at h1; rw [Nat.mul_comm q m, h1, Nat.mul_comm (wd0 m), Nat.mul_comm (wd1 m), Nat.mul_comm (wd2 m), Nat.mul_comm (wd3 m)])
    (by rw [e0, f0]; exact split_mod _ _) (by rw [e1, f1]; exact split_mod _ _) (by rw [e2, f2]; exact split_mod _ _) (by rw [e3, f3]; exact split_mod _ _) (by rw [e4, f4]; exact split_mod _ _)
    (by rw [k0]; have h1 := split_mod (q * wd0 m + u0 + 0) 18446744073709551616; rw [Nat.add_zero, hz] at h1; rw [Nat.add_zero]; omega)
    (by rw [g1, k1]; exact split_mod _ _) (by rw [g2, k2]; exact split_mod _ _) (by rw [g3, k3]; exact split_mod _ _) (by rw [g4, k4]; exact split_mod _ _)
  have hyl : y < 18446744073709551616 := by rw [hy]; exact Nat.lt_of_lt_of_eq (xw_lt b i) (by decide)
  have hql : q < 18446744073709551616 := by rw [hq]; exact Nat.mod_lt _ hB
  have hl := round_lt m a y q _ _ h.lt hyl hql hs
  have h5 : u5 + c < 18446744073709551616 := by
    unfold val5 at hl
    unfold N256 at hm
    omega
  refine ⟨h5, ⟨by rw [g1]; exact Nat.mod_lt _ hB, by rw [g2]; exact Nat.mod_lt _ hB, by rw [g3]; exact Nat.mod_lt _ hB, by rw [g4]; exact Nat.mod_lt _ hB, h5, hl, round_eq m a b i _ _ y q hy hs h.eq⟩⟩
/-- 2^256's inverse modulo m -/
def rinv (m : Nat) : Nat := ((m + 1) / 2) ^ 256 % m
def monR (m a b : Nat) : Nat := a * b * rinv m % m
theorem half_pow (m : Nat) (hm : m % 2 = 1) (h1 : 1 < m) : ∀ n, (((m + 1) / 2) ^ n * 2 ^ n) % m = 1
  | 0 => by rw [Nat.pow_zero, Nat.pow_zero, Nat.mul_one, Nat.mod_eq_of_lt h1]
  | n + 1 => by
    have ih := half_pow m hm h1 n
    rw [Nat.pow_succ ((m + 1) / 2), Nat.pow_succ 2 n, show ((m + 1) / 2) ^ n * ((m + 1) / 2) * (2 ^ n * 2) = (((m + 1) / 2) ^ n * 2 ^ n) * (((m + 1) / 2) * 2) by rw [Nat.mul_assoc, Nat.mul_left_comm ((m + 1) / 2), ← Nat.mul_assoc]]
    rw [show (m + 1) / 2 * 2 = m + 1 by omega, Nat.mul_mod, ih, Nat.one_mul, Nat.mod_mod, Nat.add_mod_left, Nat.mod_eq_of_lt h1]
theorem rinv_ok (m : Nat) (hm : m % 2 = 1) (h1 : 1 < m) : rinv m * N256 % m = 1 := by
  unfold rinv
  rw [Nat.mod_mul_mod, n256]
  exact half_pow m hm h1 256
/-- what the rounds come to -/
theorem MonI.done {m a b t0 t1 t2 t3 t4 : Nat} (h : MonI m a b 4 t0 t1 t2 t3 t4) (hm : m < N256) (hm1 : m % 2 = 1) (h1 : 1 < m) (ha : a < m) (hb : b < N256) :
    val4 t0 t1 t2 t3 < N256 ∧ lessN m (val4 t0 t1 t2 t3) (decide (0 < t4)) = monR m a b := by
  have hn : val4 t0 t1 t2 t3 < N256 := val4_lt h.l0 h.l1 h.l2 h.l3
  have hV : val5 t0 t1 t2 t3 t4 = val4 t0 t1 t2 t3 + N256 * t4 := by unfold val5 val4 N256; omega
  have hl := h.lt
  have he := h.eq
  rw [show 64 * 4 = 256 from rfl, ← n256, Nat.mod_eq_of_lt hb] at he
  have hr : val5 t0 t1 t2 t3 t4 % m = monR m a b := by
    unfold monR
    have h2 := rinv_ok m hm1 h1
    rw [Nat.mul_mod, ← he, ← Nat.mul_mod, Nat.mul_assoc, Nat.mul_comm N256, Nat.mul_mod, h2, Nat.mul_one, Nat.mod_mod]
  refine ⟨hn, ?_⟩
  rw [← hr]
  rw [hV] at hl ⊢
  generalize val4 t0 t1 t2 t3 = n at *
  have ht4 : t4 = 0 ∨ t4 = 1 := by unfold N256 at *; omega
  unfold lessN
  rcases ht4 with rfl | rfl
  · rw [Nat.mul_zero, Nat.add_zero] at *
    by_cases h3 : m ≤ n
    · rw [if_pos (Or.inr h3), show n + N256 - m = n - m + N256 by omega, Nat.add_mod_right, Nat.mod_eq_of_lt (a := n - m) (by omega), Nat.mod_eq_sub_mod h3, Nat.mod_eq_of_lt (by omega)]
    · rw [if_neg (by simp; omega), Nat.mod_eq_of_lt (by omega)]
  · rw [Nat.mul_one] at *
    rw [if_pos (Or.inl (by decide)), Nat.mod_eq_of_lt (a := n + N256 - m) (by omega), Nat.mod_eq_sub_mod (by omega), Nat.mod_eq_of_lt (by omega)]
end Go.Proofs.Ytojjbcjndgekmaa
