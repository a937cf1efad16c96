/- What the proof of PointMultiples is made of, part 16. -/
import Derived.Test.YtkfjhndofbmhoaaZPointMultiples0
import Derived.Lib.Hide
import Derived.Test.YtkfjhndofbmhoaaZPointMultiples15
import Derived.Lib.ItoaNum
import Derived.Deep.QuietTactic
import Derived.BigQuiet
import Derived.Test.YtkfjhndofbmhoaaZPointMultiples1
import Derived.Test.YtkfjhndofbmhoaaZPointMultiples2
import Derived.Test.YtkfjhndofbmhoaaZPointMultiples9
namespace Go.Proofs.Ytkfjhndofbmhoaa
open Go.RowKit
set_option linter.unusedVariables false
set_option linter.unusedSimpArgs false
/-- how many bits a number has -/
def lenN (a : Nat) : Nat := if a = 0 then 0 else a.log2 + 1
theorem bitLen_lenN (x : Nat) (h : x < 18446744073709551616) : Lib.bitLen x = lenN x := by
 unfold lenN
 split
 ·subst_vars; exact Lib.bitLenAux_zero 64
 ·rename_i h0
  obtain ⟨h1, h2, h3⟩ := Lib.bitLenAux_bounds 64 x h h0
  show Lib.bitLenAux 64 x = _
  generalize Lib.bitLenAux 64 x = k at *
  obtain ⟨m, rfl⟩ : ∃ m, k = m + 1 := ⟨k - 1, by omega⟩
  rw [(Nat.log2_eq_iff h0).2 ⟨h2, h3⟩]; rfl
theorem lenN_up (x y k : Nat) (hx : x < 2 ^ k) (hy : y ≠ 0) : lenN (x + 2 ^ k * y) = k + lenN y := by
 unfold lenN
 have hp : 0 < 2 ^ k := Nat.two_pow_pos k
 have h1 : 1 * 2 ^ k ≤ y * 2 ^ k := Nat.mul_le_mul_right _ (by omega)
 have hn : x + 2 ^ k * y ≠ 0 := by rw [Nat.mul_comm]; omega
 rw [if_neg hn, if_neg hy]
 have l1 := Nat.log2_self_le hy
 have l2 : y < 2 ^ (y.log2 + 1) := Nat.lt_log2_self
 have e : (x + 2 ^ k * y).log2 = k + y.log2 := (Nat.log2_eq_iff hn).2 ⟨by
   rw [Nat.pow_add]; exact Nat.le_trans (Nat.mul_le_mul_left _ l1) (Nat.le_add_left _ _), by
   rw [show k + y.log2 + 1 = k + (y.log2 + 1) from rfl, Nat.pow_add]
   have : 2 ^ k * (y + 1) ≤ 2 ^ k * 2 ^ (y.log2 + 1) := Nat.mul_le_mul_left _ l2
   rw [Nat.mul_add] at this
   omega⟩
 rw [e]; omega
theorem lenN_le (a k : Nat) (h : a < 2 ^ k) : lenN a ≤ k := by
 unfold lenN
 split
 ·omega
 ·rename_i h0
  have := (Nat.log2_lt h0).2 h
  omega
set_option maxRecDepth 100000 in
set_option maxHeartbeats 400000 in
theorem len_walk (x0 x1 x2 x3 : Int) (w : World)
  (h0 : 0 ≤ x0) (h0' : x0 ≤ 18446744073709551615) (h1 : 0 ≤ x1) (h1' : x1 ≤ 18446744073709551615) (h2 : 0 ≤ x2) (h2' : x2 ≤ 18446744073709551615) (h3 : 0 ≤ x3) (h3' : x3 ≤ 18446744073709551615) :
  Calls Try.prog 40 #[.agg #[.int .u64 x0, .int .u64 x1, .int .u64 x2, .int .u64 x3]] w fun e w' =>
   e = .returned (.int .i64 (if 0 < x3 then 192 + (lenN x3.toNat : Int) else if 0 < x2 then 128 + (lenN x2.toNat : Int) else if 0 < x1 then 64 + (lenN x1.toNat : Int) else if 0 < x0 then (lenN x0.toNat : Int) else 0)) ∧ Below w.heap.size w w' := by
 have b0 := lenN_le x0.toNat 64 (by omega)
 have b1 := lenN_le x1.toNat 64 (by omega)
 have b2 := lenN_le x2.toNat 64 (by omega)
 have b3 := lenN_le x3.toNat 64 (by omega)
 have c0 := fun w => len64_calls x0 w h0 h0'
 have c1 := fun w => len64_calls x1 w h1 h1'
 have c2 := fun w => len64_calls x2 w h2 h2'
 have c3 := fun w => len64_calls x3 w h3 h3'
 rw [bitLen_lenN _ (by omega)] at c0 c1 c2 c3
 have C0 := Lib.hid c0
 have C1 := Lib.hid c1
 have C2 := Lib.hid c2
 have C3 := Lib.hid c3
 clear c0 c1 c2 c3
 go_enter Try.func40, Try.ntmps40
 go_wp2
 refine wp_loop_rounds 5 ?_
 rw [rounds_succ]
 go_wp2_with fail
 ·have h : 0 < x3 := by assumption
  refine (C3.out _).mono ?_
  rintro e w' ⟨rfl, rfl⟩
  go_wp2
  go_ret
  exact ⟨rfl, by repeat (first | exact Below.refl _ _ | refine Below.drew ?_ | refine below_drewN ?_ _ | refine Below.alloc ?_ (by first | (simp; done) | (simp; omega)) _)⟩
 have n3 : x3 ≤ 0 := by omega
 rw [rounds_succ]
 go_wp2_with fail
 ·have h : 0 < x2 := by assumption
  refine (C2.out _).mono ?_
  rintro e w' ⟨rfl, rfl⟩
  go_wp2
  go_ret
  exact ⟨rfl, by repeat (first | exact Below.refl _ _ | refine Below.drew ?_ | refine below_drewN ?_ _ | refine Below.alloc ?_ (by first | (simp; done) | (simp; omega)) _)⟩
 have n2 : x2 ≤ 0 := by omega
 rw [rounds_succ]
 go_wp2_with fail
 ·have h : 0 < x1 := by assumption
  refine (C1.out _).mono ?_
  rintro e w' ⟨rfl, rfl⟩
  go_wp2
  go_ret
  exact ⟨rfl, by repeat (first | exact Below.refl _ _ | refine Below.drew ?_ | refine below_drewN ?_ _ | refine Below.alloc ?_ (by first | (simp; done) | (simp; omega)) _)⟩
 have n1 : x1 ≤ 0 := by omega
 rw [rounds_succ]
 go_wp2_with fail
 ·have h : 0 < x0 := by assumption
  refine (C0.out _).mono ?_
  rintro e w' ⟨rfl, rfl⟩
  go_wp2
  go_ret
  exact ⟨rfl, by repeat (first | exact Below.refl _ _ | refine Below.drew ?_ | refine below_drewN ?_ _ | refine Below.alloc ?_ (by first | (simp; done) | (simp; omega)) _)⟩
 have n0 : x0 ≤ 0 := by omega
 rw [rounds_succ]
 go_wp2
 go_ret
 exact ⟨rfl, by repeat (first | exact Below.refl _ _ | refine Below.drew ?_ | refine below_drewN ?_ _ | refine Below.alloc ?_ (by first | (simp; done) | (simp; omega)) _)⟩
/-- limb.Len -/
theorem len_calls {va : Value} {a : Nat} (ha : IsNum va a) (w : World) :
  Calls Try.prog 40 #[va] w fun e w' => e = .returned (.int .i64 (lenN a : Nat)) ∧ Below w.heap.size w w' := by
 obtain ⟨rfl, ha⟩ := ha
 have a0 := wd0_lt a; have a1 := wd1_lt a; have a2 := wd2_lt a; have a3 := wd3_lt a
 have ea := val_wd ha
 rw [numV_def]
 generalize wd0 a = x0 at *
 generalize wd1 a = x1 at *
 generalize wd2 a = x2 at *
 generalize wd3 a = x3 at *
 unfold N64 at a0 a1 a2 a3
 refine (len_walk x0 x1 x2 x3 w (by omega) (by omega) (by omega) (by omega) (by omega) (by omega) (by omega) (by omega)).mono ?_
 rintro e w' ⟨rfl, hb⟩
 refine ⟨ret_int ?_, hb⟩
 clear hb w w'
 unfold val4 at ea
 simp only [Int.toNat_natCast]
 by_cases h3 : x3 = 0
 ·rw [if_neg (by omega)]
  by_cases h2 : x2 = 0
  ·rw [if_neg (by omega)]
   by_cases h1 : x1 = 0
   ·rw [if_neg (by omega)]
    by_cases h0 : x0 = 0
    ·rw [if_neg (by omega), show a = 0 by omega]; rfl
    ·rw [if_pos (by omega), show a = x0 by omega]
   ·rw [if_pos (by omega), show a = x0 + 2 ^ 64 * x1 by omega, lenN_up x0 x1 64 (by omega) h1]; omega
  ·rw [if_pos (by omega), show a = (x0 + 18446744073709551616 * x1) + 2 ^ 128 * x2 by omega, lenN_up _ x2 128 (by omega) h2]; omega
 ·rw [if_pos (by omega), show a = (x0 + 18446744073709551616 * x1 + 340282366920938463463374607431768211456 * x2) + 2 ^ 192 * x3 by omega, lenN_up _ x3 192 (by omega) h3]; omega
end Go.Proofs.Ytkfjhndofbmhoaa
namespace Go.Proofs.Ytkfjhndofbmhoaa
open Go.RowKit
set_option linter.unusedVariables false
set_option linter.unusedSimpArgs false
theorem pt_bit (a n : Nat) : decide (pt a (n / 16) / 2 ^ (n % 16) % 2 = 1) = a.testBit n := by
 rw [← Nat.testBit_eq_decide_div_mod_eq]
 unfold pt
 have e : (65536 : Nat) ^ (n / 16) = 2 ^ (16 * (n / 16)) := by rw [Nat.pow_mul]
 rw [e, show (65536 : Nat) = 2 ^ 16 from by decide, Nat.testBit_mod_two_pow, Nat.testBit_div_two_pow]
 have h : n % 16 < 16 := Nat.mod_lt _ (by omega)
 simp only [h, decide_true, Bool.true_and]
 congr 1; omega
set_option maxRecDepth 100000 in
set_option maxHeartbeats 800000 in
theorem rbit_in {va : Value} {a n : Nat} (ha : IsNum va a) (hn : n < 256) (w : World) :
  Calls Try.prog 44 #[va, .int .i64 (n : Nat)] w fun e w' => e = .returned (.bool (a.testBit n)) ∧ Below w.heap.size w w' := by
 obtain ⟨rfl, ha⟩ := ha
 have P0 := fun w => parts_calls (IsNum.mk ha) w
 rw [numV_def] at P0
 have K0 := Lib.hid P0
 have HE := Lib.hid (pt_bit a n)
 clear P0
 rw [numV_def]
 have hq : n / 16 < 16 := by omega
 have hd0 : decide ((n : Int) < 0) = false := by simp
 have hd1 : decide ((255 : Int) < (n : Int)) = false := by simp; omega
 go_enter Try.func44, Try.ntmps44
 go_wp2_with fail
 refine (K0.out _).mono ?_
 rintro e w1 ⟨gx, cx, rfl, hgx, hcx, rx, hb1⟩
 have cq := rx.cell (ptL_get _ _ _ hq)
 have hB1 : Below w.heap.size w w1 := (show Below w.heap.size w _ from by repeat (first | exact Below.refl _ _ | refine Below.drew ?_ | refine below_drewN ?_ _ | refine Below.alloc ?_ (by first | (simp; done) | (simp; omega)) _)).trans (hb1.mono (by simp))
 have hp := pt_lt a (n / 16)
 obtain ⟨p, hpe⟩ : ∃ p, p = pt a (n / 16) := ⟨_, rfl⟩
 rw [← hpe] at cq hp HE
 clear hpe rx hb1 hgx
 go_wp2
 go_loopw [5, 6] (fun x i wr => ∃ k : Nat, k ≤ n % 16 ∧ i = .int .i64 k ∧ x = .int .i64 (p / 2 ^ k : Nat) ∧ Below w.heap.size w wr)
  (fun _ i _ => n % 16 - (intOf i).toNat)
 case atStart => exact ⟨0, Nat.zero_le _, rfl, by simp, hB1⟩
 case round =>
  obtain ⟨k, hk, rfl, rfl, hB⟩ := hrel
  by_cases hkr : k < n % 16
  ·have hx : p / 2 ^ k < 65536 := Nat.lt_of_le_of_lt (Nat.div_le_self _ _) hp
   have hnx : p / 2 ^ k / 2 = p / 2 ^ (k + 1) := by rw [Nat.pow_succ, Nat.div_div_eq_div_mul]
   obtain ⟨x, hxe⟩ : ∃ x, x = p / 2 ^ k := ⟨_, rfl⟩
   rw [← hxe] at hx hnx ⊢
   have HX := Lib.hid hnx
   clear hxe hnx
   go_wp2
   go_roundw
   case rel => exact ⟨k + 1, by omega, by go_num, by rw [← HX.out]; rfl, hB⟩
   case measure => simp [intOf]; omega
  ·have hk2 : k = n % 16 := by omega
   have hx : p / 2 ^ k < 65536 := Nat.lt_of_le_of_lt (Nat.div_le_self _ _) hp
   subst hk2
   obtain ⟨x, hxe⟩ : ∃ x, x = p / 2 ^ (n % 16) := ⟨_, rfl⟩
   rw [← hxe] at hx HE ⊢
   have HX := Lib.hid hxe
   clear hxe
   go_wp2
   go_ret
   refine ⟨ret_bool ?_, hB⟩
   rw [← HE.out, Bool.eq_iff_iff]
   simp
   omega
set_option maxRecDepth 100000 in
set_option maxHeartbeats 800000 in
theorem rbit_out {va : Value} {a : Nat} {i : Int} (ha : IsNum va a) (hi : i < 0 ∨ 256 ≤ i) (w : World) :
  Calls Try.prog 44 #[va, .int .i64 i] w fun e w' => e = .returned (.bool false) ∧ Below w.heap.size w w' := by
 obtain ⟨rfl, ha⟩ := ha
 rw [numV_def]
 rcases hi with hi | hi
 ·have hd0 : decide (i < 0) = true := by simp; omega
  go_enter Try.func44, Try.ntmps44
  go_wp2
  go_ret
  exact ⟨rfl, by repeat (first | exact Below.refl _ _ | refine Below.drew ?_ | refine below_drewN ?_ _ | refine Below.alloc ?_ (by first | (simp; done) | (simp; omega)) _)⟩
 ·have hd0 : decide (i < 0) = false := by simp; omega
  have hd1 : decide ((255 : Int) < i) = true := by simp; omega
  go_enter Try.func44, Try.ntmps44
  go_wp2
  go_ret
  exact ⟨rfl, by repeat (first | exact Below.refl _ _ | refine Below.drew ?_ | refine below_drewN ?_ _ | refine Below.alloc ?_ (by first | (simp; done) | (simp; omega)) _)⟩
/-- clapperref01.Bit -/
theorem rbit_calls {va : Value} {a : Nat} (ha : IsNum va a) (i : Int) (w : World) :
  Calls Try.prog 44 #[va, .int .i64 i] w fun e w' => e = .returned (.bool (bitI a i)) ∧ Below w.heap.size w w' := by
 by_cases h : 0 ≤ i ∧ i < 256
 ·obtain ⟨n, rfl⟩ := Int.eq_ofNat_of_zero_le h.1
  refine (rbit_in ha (by omega) w).mono ?_
  rintro e w' ⟨rfl, hb⟩
  exact ⟨ret_bool (by unfold bitI; simp), hb⟩
 ·refine (rbit_out ha (by omega) w).mono ?_
  rintro e w' ⟨rfl, hb⟩
  refine ⟨ret_bool ?_, hb⟩
  unfold bitI
  by_cases h0 : 0 ≤ i
  ·rw [testBit_high a i.toNat ha.2 (by omega), Bool.and_false]
  ·simp [h0]
theorem len_next (a k : Nat) : lenN (a % 2 ^ (k + 1)) = if a.testBit k then k + 1 else lenN (a % 2 ^ k) := by
 have hp : 0 < 2 ^ k := Nat.two_pow_pos k
 have h1 := Nat.mod_lt a hp
 have e : a % 2 ^ (k + 1) = a % 2 ^ k + 2 ^ k * (a / 2 ^ k % 2) := by rw [Nat.pow_succ, Nat.mod_mul]
 rw [e, Nat.testBit_eq_decide_div_mod_eq]
 have h2 : a / 2 ^ k % 2 = 0 ∨ a / 2 ^ k % 2 = 1 := by omega
 rcases h2 with h | h
 ·rw [h]; simp
 ·rw [h, lenN_up _ 1 k h1 (by omega)]; simp [lenN]; decide
theorem len_end (a : Nat) (ha : a < N256) : lenN (a % 2 ^ 256) = lenN a := by
 have e : 2 ^ 256 = N256 := by unfold N256; decide
 rw [e, Nat.mod_eq_of_lt ha]
set_option maxRecDepth 100000 in
set_option maxHeartbeats 800000 in
/-- clapperref01.Len -/
theorem rlen_calls {va : Value} {a : Nat} (ha : IsNum va a) (w : World) :
  Calls Try.prog 43 #[va] w fun e w' => e = .returned (.int .i64 (lenN a : Nat)) ∧ Below w.heap.size w w' := by
 obtain ⟨rfl, ha⟩ := ha
 have P0 := fun (n : Nat) (hn : n < 256) w => rbit_in (IsNum.mk ha) hn w
 rw [numV_def] at P0
 have K0 := Lib.hid P0
 have HE := Lib.hid (len_end a ha)
 clear P0
 rw [numV_def]
 go_enter Try.func43, Try.ntmps43
 go_wp2
 go_loopw [3, 4] (fun n i wr => ∃ k : Nat, k ≤ 256 ∧ i = .int .i64 k ∧ n = .int .i64 (lenN (a % 2 ^ k) : Nat) ∧ Hid (Rw wr 24 w.heap.size [.int .u64 (wd0 a : Nat), .int .u64 (wd1 a : Nat), .int .u64 (wd2 a : Nat), .int .u64 (wd3 a : Nat)]) ∧ Below w.heap.size w wr)
  (fun _ i _ => 256 - (intOf i).toNat)
 case atStart =>
  exact ⟨0, Nat.zero_le _, rfl, by rw [Nat.pow_zero, Nat.mod_one]; rfl, Lib.hid (Rw.new rfl), by repeat (first | exact Below.refl _ _ | refine Below.drew ?_ | refine below_drewN ?_ _ | refine Below.alloc ?_ (by first | (simp; done) | (simp; omega)) _)⟩
 case round =>
  obtain ⟨k, hk, rfl, rfl, HX, hB⟩ := hrel
  by_cases hk2 : k < 256
  ·obtain ⟨c0, c1, c2, c3⟩ := HX.out.four
   have HC := Lib.hid (len_next a k)
   go_wp2_with fail
   refine (K0.out k hk2 _).mono ?_
   rintro e w1 ⟨rfl, hb1⟩
   have HX2 := Lib.hid (HX.out.below hb1 HX.out.size)
   have hB2 := hB.trans (hb1.mono (by have := hB.size; omega))
   clear hb1 c0 c1 c2 c3
   cases hbit : a.testBit k
   ·have HD := Lib.hid hbit
    clear hbit
    go_wp2
    go_roundw
    case rel => exact ⟨k + 1, by omega, by go_num, by rw [HC.out, HD.out]; rfl, HX2, hB2⟩
    case measure => simp [intOf]; omega
   ·have HD := Lib.hid hbit
    clear hbit
    go_wp2
    go_roundw
    case rel => exact ⟨k + 1, by omega, by go_num, by rw [HC.out, HD.out]; rfl, HX2, hB2⟩
    case measure => simp [intOf]; omega
  ·have hk3 : k = 256 := by omega
   subst hk3
   go_wp2
   go_ret
   exact ⟨ret_int (by rw [HE.out]), hB⟩
end Go.Proofs.Ytkfjhndofbmhoaa
