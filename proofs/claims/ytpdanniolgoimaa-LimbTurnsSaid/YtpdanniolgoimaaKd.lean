/- clapperlaw01.LimbTurns: the walk. -/
import Derived.Test.YtpdanniolgoimaaKa
import Derived.Test.YtpdanniolgoimaaUp
import Derived.Test.YtpdanniolgoimaaLf
import Derived.Deep.QuietTactic
import Derived.BigQuiet
namespace Go.Proofs.Ytpdanniolgoimaa
open Go.RowKit
set_option linter.unusedVariables false
set_option linter.unusedSimpArgs false
attribute [local go_sem high] eqA_num eqA_wide

theorem wide_low {a : Nat} (ha : a < N256) : wideV a = .agg #[.int .u64 (wd0 a : Nat), .int .u64 (wd1 a : Nat), .int .u64 (wd2 a : Nat), .int .u64 (wd3 a : Nat), .int .u64 0, .int .u64 0, .int .u64 0, .int .u64 0] := by
  unfold N256 at ha
  have e4 : wd4 a = 0 := by unfold wd4; omega
  have e5 : wd5 a = 0 := by unfold wd5; omega
  have e6 : wd6 a = 0 := by unfold wd6; omega
  have e7 : wd7 a = 0 := by unfold wd7; omega
  rw [wideV_def, e4, e5, e6, e7]; rfl
theorem num_one : numV 1 = .agg #[.int .u64 1, .int .u64 0, .int .u64 0, .int .u64 0] := by kernel_rfl
theorem num_zero : numV 0 = .agg #[.int .u64 0, .int .u64 0, .int .u64 0, .int .u64 0] := by kernel_rfl
theorem wide_zero : wideV 0 = .agg #[.int .u64 0, .int .u64 0, .int .u64 0, .int .u64 0, .int .u64 0, .int .u64 0, .int .u64 0, .int .u64 0] := by kernel_rfl
theorem one_lt : 1 < N256 := by unfold N256; omega
set_option maxRecDepth 100000 in
set_option maxHeartbeats 1600000 in
theorem turns_walk {a b : Nat} (ha : a < N256) (hb : b < N256) (w : World) :
    Calls Try.prog 6 #[numV a, numV b] w fun e w' => e = .returned (.bool true) ∧ Below w.heap.size w w' := by
  have P0 := fun w => mul_calls (IsNum.mk ha) (IsNum.mk hb) w
  have P1 := fun w => mul_calls (IsNum.mk hb) (IsNum.mk ha) w
  have P2 := fun w => mul_calls (IsNum.mk ha) (IsNum.mk one_lt) w
  have P3 := fun w => mul_calls (IsNum.mk ha) (IsNum.mk N256_pos) w
  have PU := fun w => up_calls w
  rw [Nat.mul_comm b a] at P1
  rw [Nat.mul_one, wide_low ha, num_one, numV_def] at P2
  rw [Nat.mul_zero, wide_zero, num_zero, numV_def] at P3
  rw [numV_def a, numV_def b, wideV_def] at P0 P1
  generalize a * b = n1 at P0 P1
  have K0 := Lib.hid P0; have K1 := Lib.hid P1; have K2 := Lib.hid P2; have K3 := Lib.hid P3; have KU := Lib.hid PU
  clear P0 P1 P2 P3 PU
  rw [numV_def a, numV_def b]
  go_enter Try.func6, Try.ntmps6
  go_wp2_with fail
  refine (KU.out _).mono ?_
  rintro e W ⟨rfl, hb1⟩
  have hBW := Below.both (show Below w.heap.size w _ from by repeat (first | exact Below.refl _ _ | refine Below.drew ?_ | refine below_drewN ?_ _ | refine Below.alloc ?_ (by first | (simp; done) | (simp; omega)) _)) hb1
  have HA := Lib.hid ((NumAt.new (n := a) (g := w.heap.size) rfl).alloc _ |>.below hb1)
  have HBb := Lib.hid ((NumAt.new (n := b) (g := w.heap.size + 1) (by simp)).below hb1)
  clear hb1
  obtain ⟨a0, a1, a2, a3⟩ := HA.out.four
  obtain ⟨b0, b1, b2, b3⟩ := HBb.out.four
  have z1 := HA.out.size; have z2 := HBb.out.size
  go_wp2_with fail
  go_region_held3 (fun w' => (∀ b o, b < W.heap.size → w'.cell? ⟨b, o, none⟩ = W.cell? ⟨b, o, none⟩) ∧ Below W.heap.size W w')
    (first | exact ⟨fun b o h => rfl, (Below.refl _ _).drew⟩ | (go_split_ands; exact seen (by assumption) hb9))
    (first | (go_at_call 21; (with_reducible refine (K0.out _).mono ?_); rintro e w9 ⟨rfl, hb9⟩) | (go_at_call 21; (with_reducible refine (K1.out _).mono ?_); rintro e w9 ⟨rfl, hb9⟩) | (go_at_call 21; (with_reducible refine (K2.out _).mono ?_); rintro e w9 ⟨rfl, hb9⟩) | (go_at_call 21; (with_reducible refine (K3.out _).mono ?_); rintro e w9 ⟨rfl, hb9⟩))
  go_wp2
  go_ret
  go_split_ands
  exact ⟨rfl, Below.both hBW (by assumption)⟩
end Go.Proofs.Ytpdanniolgoimaa
