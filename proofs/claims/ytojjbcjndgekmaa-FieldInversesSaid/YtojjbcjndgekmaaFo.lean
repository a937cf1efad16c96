/- The document's Bit, for the field. -/
import Derived.Test.YtojjbcjndgekmaaRb
import Derived.Test.YtojjbcjndgekmaaLc
import Derived.Deep.QuietTactic
import Derived.BigQuiet
namespace Go.Proofs.Ytojjbcjndgekmaa
open Go.RowKit
set_option linter.unusedVariables false
set_option linter.unusedSimpArgs false
theorem pt_bit (a n : Nat) : decide (pt a (n / 16) / 2 ^ (n % 16) % 2 = 1) = a.testBit n := by
  rw [← Nat.testBit_eq_decide_div_mod_eq]
  unfold pt
  have e : (65536 : Nat) ^ (n / 16) = 2 ^ (16 * (n / 16)) := by rw [Nat.pow_mul]
  rw [e, show (65536 : Nat) = 2 ^ 16 from by decide, Nat.testBit_mod_two_pow, Nat.testBit_div_two_pow]
  have h : n % 16 < 16 := Nat.mod_lt _ (by omega)
  simp only [h, decide_true, Bool.true_and]
  congr 1; omega
set_option maxRecDepth 100000 in
set_option maxHeartbeats 800000 in
theorem rbit_in {va : Value} {a n : Nat} (ha : IsNum va a) (hn : n < 256) (w : World) :
    Calls Try.prog 41 #[va, .int .i64 (n : Nat)] w fun e w' => e = .returned (.bool (a.testBit n)) ∧ Below w.heap.size w w' := by
  obtain ⟨rfl, ha⟩ := ha
  have P0 := fun w => parts_calls (IsNum.mk ha) w
  rw [numV_def] at P0
  have K0 := Lib.hid P0
  have HE := Lib.hid (pt_bit a n)
  clear P0
  rw [numV_def]
  have hq : n / 16 < 16 := by omega
  have hd0 : decide ((n : Int) < 0) = false := by simp
  have hd1 : decide ((255 : Int) < (n : Int)) = false := by simp; omega
  go_enter Try.func41, Try.ntmps41
  go_wp2_with fail
  refine (K0.out _).mono ?_
  rintro e w1 ⟨gx, cx, rfl, hgx, hcx, rx, hb1⟩
  have cq := rx.cell (ptL_get _ _ _ hq)
  have hB1 : Below w.heap.size w w1 := (show Below w.heap.size w _ from by repeat (first | exact Below.refl _ _ | refine Below.drew ?_ | refine below_drewN ?_ _ | refine Below.alloc ?_ (by first | (simp; done) | (simp; omega)) _)).trans (hb1.mono (by simp))
  have hp := pt_lt a (n / 16)
  obtain ⟨p, hpe⟩ : ∃ p, p = pt a (n / 16) := ⟨_, rfl⟩
  rw [← hpe] at cq hp HE
  clear hpe rx hb1 hgx
  go_wp2
  go_loopw [5, 6] (fun x i wr => ∃ k : Nat, k ≤ n % 16 ∧ i = .int .i64 k ∧ x = .int .i64 (p / 2 ^ k : Nat) ∧ Below w.heap.size w wr)
    (fun _ i _ => n % 16 - (intOf i).toNat)
  case atStart => exact ⟨0, Nat.zero_le _, rfl, by simp, hB1⟩
  case round =>
    obtain ⟨k, hk, rfl, rfl, hB⟩ := hrel
    by_cases hkr : k < n % 16
    · have hx : p / 2 ^ k < 65536 := Nat.lt_of_le_of_lt (Nat.div_le_self _ _) hp
      have hnx : p / 2 ^ k / 2 = p / 2 ^ (k + 1) := by rw [Nat.pow_succ, Nat.div_div_eq_div_mul]
      obtain ⟨x, hxe⟩ : ∃ x, x = p / 2 ^ k := ⟨_, rfl⟩
      rw [← hxe] at hx hnx ⊢
      have HX := Lib.hid hnx
      clear hxe hnx
      go_wp2
      go_roundw
      case rel => exact ⟨k + 1, by omega, by go_num, by rw [← HX.out]; rfl, hB⟩
      case measure => simp [intOf]; omega
    · have hk2 : k = n % 16 := by omega
      have hx : p / 2 ^ k < 65536 := Nat.lt_of_le_of_lt (Nat.div_le_self _ _) hp
      subst hk2
      obtain ⟨x, hxe⟩ : ∃ x, x = p / 2 ^ (n % 16) := ⟨_, rfl⟩
      rw [← hxe] at hx HE ⊢
      have HX := Lib.hid hxe
      clear hxe
      go_wp2
      go_ret
      refine ⟨ret_bool ?_, hB⟩
      rw [← HE.out, Bool.eq_iff_iff]
      simp
      omega
set_option maxRecDepth 100000 in
set_option maxHeartbeats 800000 in
theorem rbit_out {va : Value} {a : Nat} {i : Int} (ha : IsNum va a) (hi : i < 0 ∨ 256 ≤ i) (w : World) :
    Calls Try.prog 41 #[va, .int .i64 i] w fun e w' => e = .returned (.bool false) ∧ Below w.heap.size w w' := by
  obtain ⟨rfl, ha⟩ := ha
  rw [numV_def]
  rcases hi with hi | hi
  · have hd0 : decide (i < 0) = true := by simp; omega
    go_enter Try.func41, Try.ntmps41
    go_wp2
    go_ret
    exact ⟨rfl, by repeat (first | exact Below.refl _ _ | refine Below.drew ?_ | refine below_drewN ?_ _ | refine Below.alloc ?_ (by first | (simp; done) | (simp; omega)) _)⟩
  · have hd0 : decide (i < 0) = false := by simp; omega
    have hd1 : decide ((255 : Int) < i) = true := by simp; omega
    go_enter Try.func41, Try.ntmps41
    go_wp2
    go_ret
    exact ⟨rfl, by repeat (first | exact Below.refl _ _ | refine Below.drew ?_ | refine below_drewN ?_ _ | refine Below.alloc ?_ (by first | (simp; done) | (simp; omega)) _)⟩
/-- clapperref01.Bit -/
theorem rbit_calls {va : Value} {a : Nat} (ha : IsNum va a) (i : Int) (w : World) :
    Calls Try.prog 41 #[va, .int .i64 i] w fun e w' => e = .returned (.bool (bitI a i)) ∧ Below w.heap.size w w' := by
  by_cases h : 0 ≤ i ∧ i < 256
  · obtain ⟨n, rfl⟩ := Int.eq_ofNat_of_zero_le h.1
    refine (rbit_in ha (by omega) w).mono ?_
    rintro e w' ⟨rfl, hb⟩
    exact ⟨ret_bool (by unfold bitI; simp), hb⟩
  · refine (rbit_out ha (by omega) w).mono ?_
    rintro e w' ⟨rfl, hb⟩
    refine ⟨ret_bool ?_, hb⟩
    unfold bitI
    by_cases h0 : 0 ≤ i
    · rw [testBit_high a i.toNat ha.2 (by omega), Bool.and_false]
    · simp [h0]

end Go.Proofs.Ytojjbcjndgekmaa
