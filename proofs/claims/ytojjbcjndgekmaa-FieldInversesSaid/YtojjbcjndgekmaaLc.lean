/- Half of a number, and one bit of it: limb.Half, limb.Bit, by their contracts. No condition but that the number is below 2^256. -/
import Derived.Test.YtojjbcjndgekmaaNum
import Derived.Deep.QuietTactic
import Derived.BigQuiet
import Derived.BigRegion
namespace Go.Proofs.Ytojjbcjndgekmaa
open Go.RowKit
set_option linter.unusedVariables false
set_option linter.unusedSimpArgs false

def hw (x y : Int) : Int := x / 2 + y % 2 * 9223372036854775808
theorem hw_or (x y : Int) (h0 : 0 ≤ x) (h0' : x < 18446744073709551616) (h1 : 0 ≤ y) : bits .or .u64 (x / 2) (IntKind.u64.wrap (y * 9223372036854775808)) = hw x y := by
  have hc : ∀ a b : Int, bits .or .u64 a b = bits .or .u64 b a := fun a b => by simp only [bits, BitVec.or_comm]
  have e : IntKind.u64.wrap (y * 9223372036854775808) = y % 2 * 9223372036854775808 := by rw [IntKind.wrap_u64]; omega
  rw [hc, e, bits_join .u64 64 (by decide) (fun n a b => by rw [IntKind.wrap_u64]; omega) 63 _ _ (by omega) (by omega) (by omega) (by omega) (by omega) (by omega)]
  unfold hw; omega

set_option maxRecDepth 100000 in
set_option maxHeartbeats 400000 in
theorem half_walk (x0 x1 x2 x3 : Int) (w : World)
    (h0 : 0 ≤ x0) (h0' : x0 < 18446744073709551616) (h1 : 0 ≤ x1) (h1' : x1 < 18446744073709551616) (h2 : 0 ≤ x2) (h2' : x2 < 18446744073709551616) (h3 : 0 ≤ x3) (h3' : x3 < 18446744073709551616) :
    Calls Try.prog 45 #[.agg #[.int .u64 x0, .int .u64 x1, .int .u64 x2, .int .u64 x3]] w fun e w' => e = .returned (.agg #[.int .u64 (hw x0 x1), .int .u64 (hw x1 x2), .int .u64 (hw x2 x3), .int .u64 (x3 / 2)]) ∧ Below w.heap.size w w' := by
  have e0 := hw_or x0 x1 h0 h0' h1
  have e1 := hw_or x1 x2 h1 h1' h2
  have e2 := hw_or x2 x3 h2 h2' h3
  go_enter Try.func45, Try.ntmps45
  go_wp2
  refine wp_loop_rounds 5 ?_
  rw [rounds_succ]
  go_wp2
  go_region
  go_wp2
  rw [rounds_succ]
  go_wp2
  go_region
  go_wp2
  rw [rounds_succ]
  go_wp2
  go_region
  go_wp2
  rw [rounds_succ]
  go_wp2
  rw [rounds_succ]
  go_wp2
  refine bodyPost_ret (v := .agg #[.int .u64 (hw x0 x1), .int .u64 (hw x1 x2), .int .u64 (hw x2 x3), .int .u64 (x3 / 2)]) (by simp [results, Try.results45, go_sem]) rfl ⟨rfl, ?_⟩
  repeat (first | exact Below.refl _ _ | refine Below.drew ?_ | refine Below.alloc ?_ (by first | (simp; done) | (simp; omega)) _)
/-- limb.Half -/
theorem half_calls {va : Value} {a : Nat} (ha : IsNum va a) (w : World) :
    Calls Try.prog 45 #[va] w fun e w' => e = .returned (numV (a / 2)) ∧ Below w.heap.size w w' := by
  obtain ⟨rfl, ha⟩ := ha
  have a0 := wd0_lt a; have a1 := wd1_lt a; have a2 := wd2_lt a; have a3 := wd3_lt a
  have ea := val_wd ha
  rw [numV_def]
  generalize wd0 a = x0 at *
  generalize wd1 a = x1 at *
  generalize wd2 a = x2 at *
  generalize wd3 a = x3 at *
  unfold N64 at a0 a1 a2 a3
  refine (half_walk x0 x1 x2 x3 w (by omega) (by omega) (by omega) (by omega) (by omega) (by omega) (by omega) (by omega)).mono ?_
  rintro e w' ⟨rfl, hb⟩
  refine ⟨?_, hb⟩
  clear hb w w'
  have e0 : hw x0 x1 = ((x0 / 2 + x1 % 2 * 9223372036854775808 : Nat) : Int) := by unfold hw; omega
  have e1 : hw x1 x2 = ((x1 / 2 + x2 % 2 * 9223372036854775808 : Nat) : Int) := by unfold hw; omega
  have e2 : hw x2 x3 = ((x2 / 2 + x3 % 2 * 9223372036854775808 : Nat) : Int) := by unfold hw; omega
  have e3 : (x3 : Int) / 2 = ((x3 / 2 : Nat) : Int) := by omega
  rw [e0, e1, e2, e3, numV_of (by unfold N64; omega) (by unfold N64; omega) (by unfold N64; omega) (by unfold N64; omega)]
  have key : val4 (x0 / 2 + x1 % 2 * 9223372036854775808) (x1 / 2 + x2 % 2 * 9223372036854775808) (x2 / 2 + x3 % 2 * 9223372036854775808) (x3 / 2) = a / 2 := by
    rw [← ea]; unfold val4; omega
  rw [key]

/-- bit i of a number -/
def bitI (a : Nat) (i : Int) : Bool := decide (0 ≤ i) && a.testBit i.toNat
set_option maxRecDepth 100000 in
set_option maxHeartbeats 400000 in
theorem bit_walk (x0 x1 x2 x3 i : Int) (w : World) (hi : 0 ≤ i) (hi' : i < 256) :
    Calls Try.prog 40 #[.agg #[.int .u64 x0, .int .u64 x1, .int .u64 x2, .int .u64 x3], .int .i64 i] w fun e w' =>
      e = .returned (.bool (bits .and .u64 ((if i / 64 = 0 then x0 else if i / 64 = 1 then x1 else if i / 64 = 2 then x2 else x3) / 2 ^ (i % 64).toNat) 1 == 1)) ∧ Below w.heap.size w w' := by
  have hq : i / 64 = 0 ∨ i / 64 = 1 ∨ i / 64 = 2 ∨ i / 64 = 3 := by omega
  rcases hq with hq | hq | hq | hq
  all_goals
    rw [hq]
    go_enter Try.func40, Try.ntmps40
    go_wp2
    go_ret
    exact ⟨rfl, by repeat (first | exact Below.refl _ _ | refine Below.drew ?_ | refine below_drewN ?_ _ | refine Below.alloc ?_ (by first | (simp; done) | (simp; omega)) _)⟩
set_option maxRecDepth 100000 in
set_option maxHeartbeats 400000 in
theorem bit_out (x0 x1 x2 x3 i : Int) (w : World) (h : i < 0 ∨ 256 ≤ i) :
    Calls Try.prog 40 #[.agg #[.int .u64 x0, .int .u64 x1, .int .u64 x2, .int .u64 x3], .int .i64 i] w fun e w' => e = .returned (.bool false) ∧ Below w.heap.size w w' := by
  rcases h with h | h
  · have hd : decide (0 ≤ i) = false := by simp; omega
    go_enter Try.func40, Try.ntmps40
    go_wp2
    go_ret
    exact ⟨rfl, by repeat (first | exact Below.refl _ _ | refine Below.drew ?_ | refine below_drewN ?_ _ | refine Below.alloc ?_ (by first | (simp; done) | (simp; omega)) _)⟩
  · have hd : decide (0 ≤ i) = true := by simp; omega
    have hd2 : decide (i < 256) = false := by simp; omega
    go_enter Try.func40, Try.ntmps40
    go_wp2
    go_ret
    exact ⟨rfl, by repeat (first | exact Below.refl _ _ | refine Below.drew ?_ | refine below_drewN ?_ _ | refine Below.alloc ?_ (by first | (simp; done) | (simp; omega)) _)⟩
theorem testBit_word (x : Nat) (r : Nat) (hx : x < N64) : (bits .and .u64 ((x : Int) / 2 ^ r) 1 == 1) = x.testBit r := by
  have e : (x : Int) / 2 ^ r = ((x / 2 ^ r : Nat) : Int) := by rw [Int.natCast_ediv, Int.natCast_pow]; rfl
  have hl : x / 2 ^ r ≤ x := Nat.div_le_self _ _
  unfold N64 at hx
  rw [e, Nat.testBit_eq_decide_div_mod_eq]
  generalize x / 2 ^ r = q at *
  rw [and_one_u64 _ (by omega) (by omega), Bool.eq_iff_iff]
  simp
  omega
theorem testBit_wd (a i : Nat) (hi : i < 256) : a.testBit i = (if i / 64 = 0 then wd0 a else if i / 64 = 1 then wd1 a else if i / 64 = 2 then wd2 a else wd3 a).testBit (i % 64) := by
  have hq : i / 64 = 0 ∨ i / 64 = 1 ∨ i / 64 = 2 ∨ i / 64 = 3 := by omega
  have p1 : (18446744073709551616 : Nat) = 2 ^ 64 := by decide
  have p2 : (340282366920938463463374607431768211456 : Nat) = 2 ^ 128 := by decide
  have p3 : (6277101735386680763835789423207666416102355444464034512896 : Nat) = 2 ^ 192 := by decide
  have hr : i % 64 < 64 := Nat.mod_lt _ (by omega)
  rcases hq with hq | hq | hq | hq
  · rw [if_pos hq]; unfold wd0; rw [p1, Nat.testBit_mod_two_pow]; simp [hr]; congr 1; omega
  · rw [if_neg (by omega), if_pos hq]; unfold wd1; rw [p1, Nat.testBit_mod_two_pow, Nat.testBit_div_two_pow]; simp [hr]; congr 1; omega
  · rw [if_neg (by omega), if_neg (by omega), if_pos hq]; unfold wd2; rw [p1, p2, Nat.testBit_mod_two_pow, Nat.testBit_div_two_pow]; simp [hr]; congr 1; omega
  · rw [if_neg (by omega), if_neg (by omega), if_neg (by omega)]; unfold wd3; rw [p1, p3, Nat.testBit_mod_two_pow, Nat.testBit_div_two_pow]; simp [hr]; congr 1; omega
theorem testBit_high (a i : Nat) (ha : a < N256) (hi : 256 ≤ i) : a.testBit i = false := by
  apply Nat.testBit_lt_two_pow
  have : 2 ^ 256 ≤ 2 ^ i := Nat.pow_le_pow_right (by omega) hi
  have e : N256 = 2 ^ 256 := by unfold N256; decide
  omega
/-- limb.Bit -/
theorem bit_calls {va : Value} {a : Nat} (ha : IsNum va a) (i : Int) (w : World) :
    Calls Try.prog 40 #[va, .int .i64 i] w fun e w' => e = .returned (.bool (bitI a i)) ∧ Below w.heap.size w w' := by
  obtain ⟨rfl, ha⟩ := ha
  rw [numV_def]
  by_cases h : 0 ≤ i ∧ i < 256
  · refine (bit_walk _ _ _ _ i w h.1 h.2).mono ?_
    rintro e w' ⟨rfl, hb⟩
    refine ⟨ret_bool ?_, hb⟩
    obtain ⟨n, rfl⟩ := Int.eq_ofNat_of_zero_le h.1
    have hn : n < 256 := by omega
    unfold bitI
    rw [testBit_wd a _ (by simpa using hn)]
    simp only [h.1, decide_true, Bool.true_and, Int.toNat_natCast]
    have c0 : ((n : Int) / 64 = 0) ↔ n / 64 = 0 := by omega
    have c1 : ((n : Int) / 64 = 1) ↔ n / 64 = 1 := by omega
    have c2 : ((n : Int) / 64 = 2) ↔ n / 64 = 2 := by omega
    have er : ((n : Int) % 64).toNat = n % 64 := by omega
    simp only [c0, c1, c2, er]
    split
    · exact testBit_word _ _ (wd0_lt a)
    split
    · exact testBit_word _ _ (wd1_lt a)
    split
    · exact testBit_word _ _ (wd2_lt a)
    · exact testBit_word _ _ (wd3_lt a)
  · refine (bit_out _ _ _ _ i w (by omega)).mono ?_
    rintro e w' ⟨rfl, hb⟩
    refine ⟨ret_bool ?_, hb⟩
    unfold bitI
    by_cases h0 : 0 ≤ i
    · rw [testBit_high a i.toNat ha (by omega), Bool.and_false]
    · simp [h0]
end Go.Proofs.Ytojjbcjndgekmaa
