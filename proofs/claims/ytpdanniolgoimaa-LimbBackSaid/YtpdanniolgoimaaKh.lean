/- clapperlaw01.LimbBack: the walk. -/
import Derived.Test.YtpdanniolgoimaaKg
import Derived.Test.YtpdanniolgoimaaUp
import Derived.Test.YtpdanniolgoimaaLa
import Derived.Test.YtpdanniolgoimaaLc
import Derived.Test.YtpdanniolgoimaaSb
namespace Go.Proofs.Ytpdanniolgoimaa
open Go.RowKit
set_option linter.unusedVariables false
set_option linter.unusedSimpArgs false
attribute [local go_sem high] eqA_num

theorem sum_over {a b : Nat} (ha : a < N256) (hb : b < N256) (h : N256 ≤ a + b) : (a + b) % N256 = a + b - N256 := by
  rw [Nat.mod_eq_sub_mod h, Nat.mod_eq_of_lt (by omega)]
theorem back_sub {a b : Nat} (ha : a < N256) (hb : b < N256) : ((a + b) % N256 + N256 - b) % N256 = a := by
  by_cases h : N256 ≤ a + b
  · rw [sum_over ha hb h, show a + b - N256 + N256 - b = a by omega, Nat.mod_eq_of_lt ha]
  · have e : (a + b) % N256 = a + b := Nat.mod_eq_of_lt (by omega)
    rw [e, show a + b + N256 - b = a + N256 by omega, Nat.add_mod_right, Nat.mod_eq_of_lt ha]
theorem back_under {a b : Nat} (ha : a < N256) (hb : b < N256) : decide ((a + b) % N256 < b) = decide (N256 ≤ a + b) := by
  rw [decide_eq_decide]
  by_cases h : N256 ≤ a + b
  · rw [sum_over ha hb h]; omega
  · rw [Nat.mod_eq_of_lt (by omega)]; omega
theorem bit0 (a : Nat) : bitI a 0 = decide (a % 2 = 1) := by
  unfold bitI
  simp [Nat.testBit_zero]
theorem one_num : numV 1 = .agg #[.int .u64 1, .int .u64 0, .int .u64 0, .int .u64 0] := by kernel_rfl
set_option maxRecDepth 100000 in
set_option maxHeartbeats 6400000 in
theorem back_walk {a b : Nat} (ha : a < N256) (hb : b < N256) (w : World) :
    Calls Try.prog 7 #[numV a, numV b] w fun e w' => e = .returned (.bool true) ∧ Below w.heap.size w w' := by
  have hs : (a + b) % N256 < N256 := Nat.mod_lt _ N256_pos
  have hh : a / 2 < N256 := Nat.lt_of_le_of_lt (Nat.div_le_self _ _) ha
  have h2 : (a / 2 + a / 2) % N256 = a / 2 + a / 2 := Nat.mod_eq_of_lt (by omega)
  have h2l : a / 2 + a / 2 < N256 := by omega
  have P0 := fun w => add_calls (IsNum.mk ha) (IsNum.mk hb) w
  have P1 := fun w => sub_calls (IsNum.mk hs) (IsNum.mk hb) w
  have P2 := fun w => bytes_calls (IsNum.mk ha) w
  have P3 := fun (w : World) (g cap : Nat) (h : Rw w 5 g (fnB (fun j => by8 a (31 - j)) 32)) => of_calls (cap := cap) (BAt.of_rw h) (by rw [bsL_length]; omega)
  have P4 := fun w => half_calls (IsNum.mk ha) w
  have P5 := fun w => add_calls (IsNum.mk hh) (IsNum.mk hh) w
  have P6 := fun w => bit_calls (IsNum.mk ha) 0 w
  have P7 := fun w => add_calls (IsNum.mk h2l) (IsNum.mk (show 1 < N256 by unfold N256; omega)) w
  have PU := fun w => up_calls w
  rw [back_sub ha hb, back_under ha hb] at P1
  rw [bsL_length, beN_all a ha] at P3
  rw [h2] at P5
  rw [bit0] at P6
  have hcase : a % 2 = 1 ∧ (a / 2 + a / 2 + 1) % N256 = a ∨ a % 2 = 0 ∧ a / 2 + a / 2 = a := by
    by_cases h : a % 2 = 1
    · exact .inl ⟨h, by rw [show a / 2 + a / 2 + 1 = a by omega]; exact Nat.mod_eq_of_lt ha⟩
    · exact .inr ⟨by omega, by omega⟩
  rw [numV_def a, numV_def b] at P0
  rw [one_num] at P7
  rw [numV_def b] at P1
  rw [numV_def a] at P2 P3 P4 P6
  generalize decide (N256 ≤ a + b) = o1 at P0 P1
  generalize decide (N256 ≤ a / 2 + a / 2) = o2 at P5
  generalize decide (N256 ≤ a / 2 + a / 2 + 1) = o3 at P7
  generalize (a + b) % N256 = s at P0 P1
  rw [numV_def] at P0 P1 P4 P5 P7
  try rw [numV_def] at P1
  try rw [numV_def] at P5
  try rw [numV_def] at P7
  try rw [numV_def] at P5
  try rw [numV_def] at P7
  generalize a / 2 = h at P4 P5 P7 hcase
  have K0 := Lib.hid P0; have K1 := Lib.hid P1; have K2 := Lib.hid P2; have K3 := Lib.hid P3; have K4 := Lib.hid P4; have K5 := Lib.hid P5; have K6 := Lib.hid P6; have K7 := Lib.hid P7; have KU := Lib.hid PU; have HC := Lib.hid hcase
  clear P0 P1 P2 P3 P4 P5 P6 P7 PU hcase h2 h2l hh hs
  rw [numV_def a, numV_def b]
  go_enter Try.func7, Try.ntmps7
  go_wp2_with fail
  refine (KU.out _).mono ?_
  rintro e w1 ⟨rfl, hb1⟩
  have hB1 := Below.both (show Below w.heap.size w _ from by repeat (first | exact Below.refl _ _ | refine Below.drew ?_ | refine below_drewN ?_ _ | refine Below.alloc ?_ (by first | (simp; done) | (simp; omega)) _)) hb1
  have HA1 := Lib.hid ((NumAt.new (n := a) (g := w.heap.size) rfl).alloc _ |>.below hb1)
  have HB1 := Lib.hid ((NumAt.new (n := b) (g := w.heap.size + 1) (by simp)).below hb1)
  clear hb1
  obtain ⟨a0, a1, a2, a3⟩ := HA1.out.four
  obtain ⟨b0, b1, b2, b3⟩ := HB1.out.four
  go_wp2_with fail
  refine (K0.out _).mono ?_
  rintro e w2 ⟨rfl, hb2⟩
  have hB2 := Below.both hB1 hb2
  have HA2 := Lib.hid (HA1.out.below hb2)
  have HB2 := Lib.hid (HB1.out.below hb2)
  clear hb2 HA1 HB1 a0 a1 a2 a3 b0 b1 b2 b3 hB1
  obtain ⟨b0, b1, b2, b3⟩ := HB2.out.four
  have zb := HB2.out.size
  go_wp2_with fail
  refine (K1.out _).mono ?_
  rintro e w3 ⟨rfl, hb3⟩
  have hB3 := Below.both (hB2.alloc (by exact hB2.size) _) hb3
  have HA3 := Lib.hid ((HA2.out.alloc _).below hb3)
  clear hb3 HA2 HB2 b0 b1 b2 b3 zb hB2
  obtain ⟨a0, a1, a2, a3⟩ := HA3.out.four
  have za := HA3.out.size
  go_wp2_with fail
  refine (K2.out _).mono ?_
  rintro e w4 ⟨g, cap, rfl, hg, hrw, hb4⟩
  have hB4 := Below.both (hB3.alloc (by exact hB3.size) _) hb4
  have HA4 := Lib.hid ((HA3.out.alloc _).below hb4)
  have HD4 := Lib.hid ((NumAt.new (n := a) (g := w3.heap.size) rfl).below hb4)
  have HRW := Lib.hid hrw
  clear hb4 HA3 a0 a1 a2 a3 za hB3 hrw hg
  go_wp2_with fail
  refine (K3.out _ _ _ HRW.out).mono ?_
  rintro e w5 ⟨rfl, hb5⟩
  have hB5 := Below.both hB4 hb5
  have HA5 := Lib.hid (HA4.out.below hb5)
  have HD5 := Lib.hid (HD4.out.below hb5)
  clear hb5 HA4 HD4 hB4 HRW
  obtain ⟨a0, a1, a2, a3⟩ := HA5.out.four
  have za := HA5.out.size
  go_wp2_with fail
  refine (K4.out _).mono ?_
  rintro e w6 ⟨rfl, hb6⟩
  have hB6 := Below.both (hB5.alloc (by exact hB5.size) _) hb6
  have HA6 := Lib.hid ((HA5.out.alloc _).below hb6)
  have HD6 := Lib.hid ((HD5.out.alloc _).below hb6)
  have HX6 := Lib.hid ((NumAt.new (n := a) (g := w5.heap.size) rfl).below hb6)
  clear hb6 HA5 HD5 a0 a1 a2 a3 za hB5
  go_wp2_with fail
  refine (K5.out _).mono ?_
  rintro e w7 ⟨rfl, hb7⟩
  have hB7 := Below.both (hB6.alloc (by exact hB6.size) _) hb7
  have HA7 := Lib.hid ((HA6.out.alloc _).below hb7)
  have HD7 := Lib.hid ((HD6.out.alloc _).below hb7)
  have HX7 := Lib.hid ((HX6.out.alloc _).below hb7)
  clear hb7 HA6 HD6 HX6 hB6
  obtain ⟨a0, a1, a2, a3⟩ := HA7.out.four
  have za := HA7.out.size
  go_wp2_with fail
  refine (K6.out _).mono ?_
  rintro e w8 ⟨rfl, hb8⟩
  have hB8 := Below.both (hB7.alloc (by exact hB7.size) _) hb8
  have HA8 := Lib.hid ((HA7.out.alloc _).below hb8)
  have HD8 := Lib.hid ((HD7.out.alloc _).below hb8)
  have HX8 := Lib.hid ((HX7.out.alloc _).below hb8)
  have HT8 := Lib.hid ((NumAt.new (n := h + h) (g := w7.heap.size) rfl).below hb8)
  have zD := HD7.out.size; have zX := HX7.out.size
  clear hb8 HA7 HD7 HX7 a0 a1 a2 a3 hB7
  rcases HC.out with ⟨hm, ht⟩ | ⟨hm, ht⟩
  · have hd : decide (a % 2 = 1) = true := by simp [hm]
    have HT := Lib.hid ht
    have HMM := Lib.hid hm
    clear ht hm
    obtain ⟨t0, t1, t2, t3⟩ := HT8.out.four
    go_wp2_with fail
    refine (K7.out _).mono ?_
    rintro e w9 ⟨rfl, hb9⟩
    have hB9 := Below.both hB8 hb9
    have HA9 := Lib.hid (HA8.out.below hb9)
    have HD9 := Lib.hid (HD8.out.below hb9)
    have HX9 := Lib.hid (HX8.out.below hb9)
    have HT9 := Lib.hid (HT8.out.below hb9)
    clear hb9 t0 t1 t2 t3
    rw [HT.out]
    obtain ⟨a0, a1, a2, a3⟩ := HA9.out.four
    obtain ⟨d0, d1, d2, d3⟩ := HD9.out.four
    obtain ⟨x0, x1, x2, x3⟩ := HX9.out.four
    obtain ⟨t0, t1, t2, t3⟩ := HT9.out.four
    have f0 := Rw.free HT9.out 0
    have f1 := Rw.free HT9.out 1
    have f2 := Rw.free HT9.out 2
    have f3 := Rw.free HT9.out 3
    have zT := HT9.out.size
    go_wp2
    go_ret
    exact ⟨rfl, by repeat (first | (with_reducible exact hB9) | refine Below.setCell ?_ (by simp; omega) _)⟩
  · have hd : decide (a % 2 = 1) = false := by simp [hm]
    have HT := Lib.hid ht
    have HMM := Lib.hid hm
    clear ht hm
    have hT8 := HT8.out
    rw [HT.out] at hT8
    obtain ⟨a0, a1, a2, a3⟩ := HA8.out.four
    obtain ⟨d0, d1, d2, d3⟩ := HD8.out.four
    obtain ⟨x0, x1, x2, x3⟩ := HX8.out.four
    obtain ⟨t0, t1, t2, t3⟩ := hT8.four
    clear hT8
    go_wp2
    go_ret
    exact ⟨rfl, hB8⟩
end Go.Proofs.Ytpdanniolgoimaa
