/- What the proof of PointSums is made of, part 16. -/
import Derived.Test.YtkfjhndofbmhoaaZPointSums0
import Derived.Lib.Hide
import Derived.Test.YtkfjhndofbmhoaaZPointSums15
import Derived.Lib.ItoaNum
import Derived.Deep.QuietTactic
import Derived.BigQuiet
namespace Go.Proofs.Ytkfjhndofbmhoaa
open Go.RowKit
set_option linter.unusedVariables false
set_option linter.unusedSimpArgs false
/-- how many bits a number has -/
def lenN (a : Nat) : Nat := if a = 0 then 0 else a.log2 + 1
theorem bitLen_lenN (x : Nat) (h : x < 18446744073709551616) : Lib.bitLen x = lenN x := by
 unfold lenN
 split
 ·subst_vars; exact Lib.bitLenAux_zero 64
 ·rename_i h0
  obtain ⟨h1, h2, h3⟩ := Lib.bitLenAux_bounds 64 x h h0
  show Lib.bitLenAux 64 x = _
  generalize Lib.bitLenAux 64 x = k at *
  obtain ⟨m, rfl⟩ : ∃ m, k = m + 1 := ⟨k - 1, by omega⟩
  rw [(Nat.log2_eq_iff h0).2 ⟨h2, h3⟩]; rfl
theorem lenN_up (x y k : Nat) (hx : x < 2 ^ k) (hy : y ≠ 0) : lenN (x + 2 ^ k * y) = k + lenN y := by
 unfold lenN
 have hp : 0 < 2 ^ k := Nat.two_pow_pos k
 have h1 : 1 * 2 ^ k ≤ y * 2 ^ k := Nat.mul_le_mul_right _ (by omega)
 have hn : x + 2 ^ k * y ≠ 0 := by rw [Nat.mul_comm]; omega
 rw [if_neg hn, if_neg hy]
 have l1 := Nat.log2_self_le hy
 have l2 : y < 2 ^ (y.log2 + 1) := Nat.lt_log2_self
 have e : (x + 2 ^ k * y).log2 = k + y.log2 := (Nat.log2_eq_iff hn).2 ⟨by
   rw [Nat.pow_add]; exact Nat.le_trans (Nat.mul_le_mul_left _ l1) (Nat.le_add_left _ _), by
   rw [show k + y.log2 + 1 = k + (y.log2 + 1) from rfl, Nat.pow_add]
   have : 2 ^ k * (y + 1) ≤ 2 ^ k * 2 ^ (y.log2 + 1) := Nat.mul_le_mul_left _ l2
   rw [Nat.mul_add] at this
   omega⟩
 rw [e]; omega
theorem lenN_le (a k : Nat) (h : a < 2 ^ k) : lenN a ≤ k := by
 unfold lenN
 split
 ·omega
 ·rename_i h0
  have := (Nat.log2_lt h0).2 h
  omega
set_option maxRecDepth 100000 in
set_option maxHeartbeats 400000 in
theorem len_walk (x0 x1 x2 x3 : Int) (w : World)
  (h0 : 0 ≤ x0) (h0' : x0 ≤ 18446744073709551615) (h1 : 0 ≤ x1) (h1' : x1 ≤ 18446744073709551615) (h2 : 0 ≤ x2) (h2' : x2 ≤ 18446744073709551615) (h3 : 0 ≤ x3) (h3' : x3 ≤ 18446744073709551615) :
  Calls Try.prog 40 #[.agg #[.int .u64 x0, .int .u64 x1, .int .u64 x2, .int .u64 x3]] w fun e w' =>
   e = .returned (.int .i64 (if 0 < x3 then 192 + (lenN x3.toNat : Int) else if 0 < x2 then 128 + (lenN x2.toNat : Int) else if 0 < x1 then 64 + (lenN x1.toNat : Int) else if 0 < x0 then (lenN x0.toNat : Int) else 0)) ∧ Below w.heap.size w w' := by
 have b0 := lenN_le x0.toNat 64 (by omega)
 have b1 := lenN_le x1.toNat 64 (by omega)
 have b2 := lenN_le x2.toNat 64 (by omega)
 have b3 := lenN_le x3.toNat 64 (by omega)
 have c0 := fun w => len64_calls x0 w h0 h0'
 have c1 := fun w => len64_calls x1 w h1 h1'
 have c2 := fun w => len64_calls x2 w h2 h2'
 have c3 := fun w => len64_calls x3 w h3 h3'
 rw [bitLen_lenN _ (by omega)] at c0 c1 c2 c3
 have C0 := Lib.hid c0
 have C1 := Lib.hid c1
 have C2 := Lib.hid c2
 have C3 := Lib.hid c3
 clear c0 c1 c2 c3
 go_enter Try.func40, Try.ntmps40
 go_wp2
 refine wp_loop_rounds 5 ?_
 rw [rounds_succ]
 go_wp2_with fail
 ·have h : 0 < x3 := by assumption
  refine (C3.out _).mono ?_
  rintro e w' ⟨rfl, rfl⟩
  go_wp2
  go_ret
  exact ⟨rfl, by repeat (first | exact Below.refl _ _ | refine Below.drew ?_ | refine below_drewN ?_ _ | refine Below.alloc ?_ (by first | (simp; done) | (simp; omega)) _)⟩
 have n3 : x3 ≤ 0 := by omega
 rw [rounds_succ]
 go_wp2_with fail
 ·have h : 0 < x2 := by assumption
  refine (C2.out _).mono ?_
  rintro e w' ⟨rfl, rfl⟩
  go_wp2
  go_ret
  exact ⟨rfl, by repeat (first | exact Below.refl _ _ | refine Below.drew ?_ | refine below_drewN ?_ _ | refine Below.alloc ?_ (by first | (simp; done) | (simp; omega)) _)⟩
 have n2 : x2 ≤ 0 := by omega
 rw [rounds_succ]
 go_wp2_with fail
 ·have h : 0 < x1 := by assumption
  refine (C1.out _).mono ?_
  rintro e w' ⟨rfl, rfl⟩
  go_wp2
  go_ret
  exact ⟨rfl, by repeat (first | exact Below.refl _ _ | refine Below.drew ?_ | refine below_drewN ?_ _ | refine Below.alloc ?_ (by first | (simp; done) | (simp; omega)) _)⟩
 have n1 : x1 ≤ 0 := by omega
 rw [rounds_succ]
 go_wp2_with fail
 ·have h : 0 < x0 := by assumption
  refine (C0.out _).mono ?_
  rintro e w' ⟨rfl, rfl⟩
  go_wp2
  go_ret
  exact ⟨rfl, by repeat (first | exact Below.refl _ _ | refine Below.drew ?_ | refine below_drewN ?_ _ | refine Below.alloc ?_ (by first | (simp; done) | (simp; omega)) _)⟩
 have n0 : x0 ≤ 0 := by omega
 rw [rounds_succ]
 go_wp2
 go_ret
 exact ⟨rfl, by repeat (first | exact Below.refl _ _ | refine Below.drew ?_ | refine below_drewN ?_ _ | refine Below.alloc ?_ (by first | (simp; done) | (simp; omega)) _)⟩
/-- limb.Len -/
theorem len_calls {va : Value} {a : Nat} (ha : IsNum va a) (w : World) :
  Calls Try.prog 40 #[va] w fun e w' => e = .returned (.int .i64 (lenN a : Nat)) ∧ Below w.heap.size w w' := by
 obtain ⟨rfl, ha⟩ := ha
 have a0 := wd0_lt a; have a1 := wd1_lt a; have a2 := wd2_lt a; have a3 := wd3_lt a
 have ea := val_wd ha
 rw [numV_def]
 generalize wd0 a = x0 at *
 generalize wd1 a = x1 at *
 generalize wd2 a = x2 at *
 generalize wd3 a = x3 at *
 unfold N64 at a0 a1 a2 a3
 refine (len_walk x0 x1 x2 x3 w (by omega) (by omega) (by omega) (by omega) (by omega) (by omega) (by omega) (by omega)).mono ?_
 rintro e w' ⟨rfl, hb⟩
 refine ⟨ret_int ?_, hb⟩
 clear hb w w'
 unfold val4 at ea
 simp only [Int.toNat_natCast]
 by_cases h3 : x3 = 0
 ·rw [if_neg (by omega)]
  by_cases h2 : x2 = 0
  ·rw [if_neg (by omega)]
   by_cases h1 : x1 = 0
   ·rw [if_neg (by omega)]
    by_cases h0 : x0 = 0
    ·rw [if_neg (by omega), show a = 0 by omega]; rfl
    ·rw [if_pos (by omega), show a = x0 by omega]
   ·rw [if_pos (by omega), show a = x0 + 2 ^ 64 * x1 by omega, lenN_up x0 x1 64 (by omega) h1]; omega
  ·rw [if_pos (by omega), show a = (x0 + 18446744073709551616 * x1) + 2 ^ 128 * x2 by omega, lenN_up _ x2 128 (by omega) h2]; omega
 ·rw [if_pos (by omega), show a = (x0 + 18446744073709551616 * x1 + 340282366920938463463374607431768211456 * x2) + 2 ^ 192 * x3 by omega, lenN_up _ x3 192 (by omega) h3]; omega
end Go.Proofs.Ytkfjhndofbmhoaa
