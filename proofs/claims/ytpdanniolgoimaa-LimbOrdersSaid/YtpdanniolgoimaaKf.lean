/- clapperlaw01.LimbOrders: the walk. -/
import Derived.Test.YtpdanniolgoimaaKa
import Derived.Test.YtpdanniolgoimaaUp
import Derived.Test.YtpdanniolgoimaaLa
import Derived.Test.YtpdanniolgoimaaLb
import Derived.Test.YtpdanniolgoimaaLc
import Derived.Test.YtpdanniolgoimaaLe
namespace Go.Proofs.Ytpdanniolgoimaa
open Go.RowKit
set_option linter.unusedVariables false
set_option linter.unusedSimpArgs false

theorem len_top (a k : Nat) (h : lenN a ≤ k) : a.testBit k = false := by
  apply Nat.testBit_lt_two_pow
  have h1 : a < 2 ^ lenN a := by
    unfold lenN
    split
    · omega
    · exact Nat.lt_log2_self
  exact Nat.lt_of_lt_of_le h1 (Nat.pow_le_pow_right (by omega) h)
theorem len_high (a : Nat) (h : a ≠ 0) : a.testBit (lenN a - 1) = true := by
  unfold lenN
  rw [if_neg h, Nat.add_sub_cancel, Nat.testBit_eq_decide_div_mod_eq]
  have h1 := Nat.log2_self_le h
  have h2 : a < 2 ^ (a.log2 + 1) := Nat.lt_log2_self
  rw [Nat.pow_succ] at h2
  have hp : 0 < 2 ^ a.log2 := Nat.two_pow_pos _
  have h3 : a / 2 ^ a.log2 = 1 := by
    apply Nat.le_antisymm
    · have := (Nat.div_lt_iff_lt_mul hp).2 (show a < 2 * 2 ^ a.log2 by omega); omega
    · exact (Nat.le_div_iff_mul_le hp).2 (by omega)
  rw [h3]; decide
theorem zero_words : (.agg #[.int .u64 (wd0 0 : Nat), .int .u64 (wd1 0 : Nat), .int .u64 (wd2 0 : Nat), .int .u64 (wd3 0 : Nat)] : Value) = .agg #[.int .u64 0, .int .u64 0, .int .u64 0, .int .u64 0] := by kernel_rfl
set_option maxRecDepth 100000 in
set_option maxHeartbeats 6400000 in
theorem orders_walk {a b : Nat} (ha : a < N256) (hb : b < N256) (w : World) :
    Calls Try.prog 9 #[numV a, numV b] w fun e w' => e = .returned (.bool true) ∧ Below w.heap.size w w' := by
  have P0 := fun w => cmp_calls (IsNum.mk ha) (IsNum.mk hb) w
  have P1 := fun w => cmp_calls (IsNum.mk hb) (IsNum.mk ha) w
  have P2 := fun w => sub_calls (IsNum.mk ha) (IsNum.mk hb) w
  have P3 := fun w => len_calls (IsNum.mk ha) w
  have P4 := fun (i : Int) w => bit_calls (IsNum.mk ha) i w
  have PU := fun w => up_calls w
  have hL := lenN_le a 256 (by have e : 2 ^ 256 = N256 := by { unfold N256; decide }
                               omega)
  have hE := fun (d : Nat) w => eqA_num d (wd0 a : Nat) (wd1 a : Nat) (wd2 a : Nat) (wd3 a : Nat) (wd0 b : Nat) (wd1 b : Nat) (wd2 b : Nat) (wd3 b : Nat) w
  rw [words_beq ha hb] at hE
  have hZ := fun (d : Nat) w => eqA_num d (wd0 a : Nat) (wd1 a : Nat) (wd2 a : Nat) (wd3 a : Nat) (wd0 0 : Nat) (wd1 0 : Nat) (wd2 0 : Nat) (wd3 0 : Nat) w
  rw [words_beq ha N256_pos, zero_words] at hZ
  have PF : ∀ (i : Int) w, (lenN a : Int) ≤ i → Calls Try.prog 24 #[numV a, .int .i64 i] w fun e w' => e = .returned (.bool false) ∧ Below w.heap.size w w' := fun i w hi => by
    have h := P4 i w
    rwa [show bitI a i = false from by unfold bitI; rw [len_top a i.toNat (by omega), Bool.and_false]] at h
  have PT : a ≠ 0 → ∀ w, Calls Try.prog 24 #[numV a, .int .i64 ((lenN a : Int) - 1)] w fun e w' => e = .returned (.bool true) ∧ Below w.heap.size w w' := fun h0 w => by
    have h := P4 ((lenN a : Int) - 1) w
    have h1 : 1 ≤ lenN a := by unfold lenN; rw [if_neg h0]; omega
    rwa [show bitI a ((lenN a : Int) - 1) = true from by
      unfold bitI
      rw [show ((lenN a : Int) - 1).toNat = lenN a - 1 by omega, len_high a h0]
      simp; omega] at h
  obtain ⟨z, N, hz, hN, hzn⟩ : ∃ (z : Bool) (N : Int), decide (a = 0) = z ∧ (lenN a : Int) = N ∧ (z = true ∧ N = 0 ∨ z = false ∧ 1 ≤ N ∧ (N == 0) = false ∧ a ≠ 0) := by
    by_cases h : a = 0
    · exact ⟨true, 0, by simp [h], by rw [h]; rfl, .inl ⟨rfl, rfl⟩⟩
    · exact ⟨false, _, by simp [h], rfl, .inr ⟨rfl, by unfold lenN; rw [if_neg h]; omega, by unfold lenN; rw [if_neg h]; simp; omega, h⟩⟩
  rw [hz] at hZ
  rw [hN] at P3 PT
  simp only [hN] at PF
  obtain ⟨c, c2, u, e, h0, h1, h2, h3, hc⟩ : ∃ (c c2 : Int) (u e : Bool), cmpI a b = c ∧ cmpI b a = c2 ∧ decide (a < b) = u ∧ decide (a = b) = e ∧ (c = -1 ∧ c2 = 1 ∧ u = true ∧ e = false ∨ c = 0 ∧ c2 = 0 ∧ u = false ∧ e = true ∨ c = 1 ∧ c2 = -1 ∧ u = false ∧ e = false) := by
    by_cases h : a < b
    · exact ⟨-1, 1, true, false, by unfold cmpI; rw [if_pos h], by unfold cmpI; rw [if_neg (by omega), if_pos h], by simp [h], by simp; omega, .inl ⟨rfl, rfl, rfl, rfl⟩⟩
    · by_cases h' : b < a
      · exact ⟨1, -1, false, false, by unfold cmpI; rw [if_neg h, if_pos h'], by unfold cmpI; rw [if_pos h'], by first | (simp [h]; done) | (simp [h]; omega), by first | (simp; done) | (simp; omega), .inr (.inr ⟨rfl, rfl, rfl, rfl⟩)⟩
      · exact ⟨0, 0, false, true, by unfold cmpI; rw [if_neg h, if_neg h'], by unfold cmpI; rw [if_neg h', if_neg h], by first | (simp [h]; done) | (simp [h]; omega), by first | (simp; done) | (simp; omega), .inr (.inl ⟨rfl, rfl, rfl, rfl⟩)⟩
  rw [h0] at P0
  rw [h1] at P1
  rw [h2] at P2
  rw [h3] at hE
  rw [numV_def a, numV_def b] at P0 P1 P2
  rw [numV_def a] at P3 PF PT
  rw [numV_def] at P2
  generalize (a + N256 - b) % N256 = n2 at P2
  have hN256 : N ≤ 256 := by omega
  have K0 := Lib.hid P0; have K1 := Lib.hid P1; have K2 := Lib.hid P2; have K3 := Lib.hid P3; have KF := Lib.hid PF; have KT := Lib.hid PT; have KU := Lib.hid PU
  clear P0 P1 P2 P3 PF PT P4 PU h0 h1 h2 h3 hz hN hL
  rw [numV_def a, numV_def b]
  obtain ⟨NN, hNN⟩ : ∃ NN : Int, NN = N := ⟨_, rfl⟩
  have HNN := Lib.hid hNN
  rw [← hNN] at KF
  clear hNN
  rcases hzn with ⟨rfl, rfl⟩ | ⟨rfl, hN1, hNb, hne⟩ <;> rcases hc with ⟨rfl, rfl, rfl, rfl⟩ | ⟨rfl, rfl, rfl, rfl⟩ | ⟨rfl, rfl, rfl, rfl⟩
  all_goals
    go_enter Try.func9, Try.ntmps9
    go_wp2_with fail
    refine (KU.out _).mono ?_
    rintro e w1 ⟨rfl, hb1⟩
    have hB1 := Below.both (show Below w.heap.size w _ from by repeat (first | exact Below.refl _ _ | refine Below.drew ?_ | refine below_drewN ?_ _ | refine Below.alloc ?_ (by first | (simp; done) | (simp; omega)) _)) hb1
    have HA := Lib.hid ((NumAt.new (n := a) (g := w.heap.size) rfl).alloc _ |>.below hb1)
    have HBb := Lib.hid ((NumAt.new (n := b) (g := w.heap.size + 1) (by simp)).below hb1)
    clear hb1
    obtain ⟨a0, a1, a2, a3⟩ := HA.out.four
    obtain ⟨b0, b1, b2, b3⟩ := HBb.out.four
    go_wp2_with fail
    refine (K0.out _).mono ?_
    rintro e w2 ⟨rfl, hb2⟩
    have hB2 := Below.both hB1 hb2
    have HA2 := Lib.hid (HA.out.below hb2)
    have HB2 := Lib.hid (HBb.out.below hb2)
    clear hb2 HA HBb a0 a1 a2 a3 b0 b1 b2 b3 hB1
    obtain ⟨a0, a1, a2, a3⟩ := HA2.out.four
    obtain ⟨b0, b1, b2, b3⟩ := HB2.out.four
    go_wp2_with fail
    refine (K2.out _).mono ?_
    rintro e w3 ⟨rfl, hb3⟩
    have hB3 := Below.both hB2 hb3
    have HA3 := Lib.hid (HA2.out.below hb3)
    have HB3 := Lib.hid (HB2.out.below hb3)
    clear hb3 HA2 HB2 a0 a1 a2 a3 b0 b1 b2 b3 hB2
    obtain ⟨a0, a1, a2, a3⟩ := HA3.out.four
    have za := HA3.out.size
    go_wp2_with fail
    refine (K3.out _).mono ?_
    rintro e w4 ⟨rfl, hb4⟩
    have hB4 := Below.both (hB3.alloc (by exact hB3.size) _) hb4
    have HA4 := Lib.hid ((HA3.out.alloc _).below hb4)
    have HB4 := Lib.hid ((HB3.out.alloc _).below hb4)
    clear hb4 HA3 HB3 a0 a1 a2 a3 za hB3
    go_wp2
    go_loopw [10] (fun i wr => ∃ k : Int, 0 ≤ k ∧ k ≤ 256 ∧ Hid (NN ≤ k) ∧ i = .int .i64 k ∧ Hid (NumAt wr w.heap.size a) ∧ Hid (NumAt wr (w.heap.size + 1) b) ∧ Below w.heap.size w wr)
      (fun i _ => (256 - intOf i).toNat)
    case atStart => exact ⟨_, by omega, by omega, Lib.hid (by have := HNN.out; omega), rfl, HA4, HB4, hB4⟩
    case round =>
      obtain ⟨k, hk0, hk, hkN, rfl, HA5, HB5, hB5⟩ := hrel
      obtain ⟨a0, a1, a2, a3⟩ := HA5.out.four
      by_cases hk2 : k < 256
      · go_wp2_with fail
        refine (KF.out k _ hkN.out).mono ?_
        rintro e w5 ⟨rfl, hb5⟩
        have hB6 := Below.both hB5 hb5
        have HA6 := Lib.hid (HA5.out.below hb5)
        have HB6 := Lib.hid (HB5.out.below hb5)
        have HK := Lib.hid (show NN ≤ k + 1 from by have := hkN.out; omega)
        clear hb5 a0 a1 a2 a3
        go_wp2
        go_roundw
        case rel => exact ⟨k + 1, by omega, by omega, HK, rfl, HA6, HB6, hB6⟩
        case measure => simp [intOf]; omega
      · obtain ⟨b0, b1, b2, b3⟩ := HB5.out.four
        go_wp2_with fail
        refine (K1.out _).mono ?_
        rintro e w6 ⟨rfl, hb6⟩
        have hB6 := Below.both hB5 hb6
        have HA6 := Lib.hid (HA5.out.below hb6)
        have HB6 := Lib.hid (HB5.out.below hb6)
        clear hb6 a0 a1 a2 a3 b0 b1 b2 b3
        obtain ⟨a0, a1, a2, a3⟩ := HA6.out.four
        obtain ⟨b0, b1, b2, b3⟩ := HB6.out.four
        go_wp2_with fail
        first
          | (refine (KT.out hne _).mono ?_
             rintro e w7 ⟨rfl, hb7⟩
             have hB7 := Below.both hB6 hb7
             go_wp2
             go_ret
             exact ⟨rfl, hB7⟩)
          | (go_ret
             exact ⟨rfl, hB6⟩)
end Go.Proofs.Ytpdanniolgoimaa
