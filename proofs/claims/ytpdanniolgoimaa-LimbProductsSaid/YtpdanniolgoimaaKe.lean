/- clapperlaw01.LimbProducts: the walk. -/
import Derived.Test.YtpdanniolgoimaaKa
import Derived.Test.YtpdanniolgoimaaUp
import Derived.Test.YtpdanniolgoimaaLf
import Derived.Test.YtpdanniolgoimaaRf
import Derived.Deep.QuietTactic
import Derived.BigQuiet
namespace Go.Proofs.Ytpdanniolgoimaa
open Go.RowKit
set_option linter.unusedVariables false
set_option linter.unusedSimpArgs false
attribute [local go_sem high] eqA_num eqA_wide

set_option maxRecDepth 100000 in
set_option maxHeartbeats 1600000 in
theorem products_walk {a b : Nat} (ha : a < N256) (hb : b < N256) (w : World) :
    Calls Try.prog 5 #[numV a, numV b] w fun e w' => e = .returned (.bool true) ∧ Below w.heap.size w w' := by
  have P0 := fun w => mul_calls (IsNum.mk ha) (IsNum.mk hb) w
  have P1 := fun w => rmul_calls (IsNum.mk ha) (IsNum.mk hb) w
  have PU := fun w => up_calls w
  rw [numV_def a, numV_def b, wideV_def] at P0 P1
  generalize a * b = n1 at P0 P1
  have K0 := Lib.hid P0; have K1 := Lib.hid P1; have KU := Lib.hid PU
  clear P0 P1 PU
  rw [numV_def a, numV_def b]
  go_enter Try.func5, Try.ntmps5
  go_wp2_with fail
  refine (KU.out _).mono ?_
  rintro e W ⟨rfl, hb1⟩
  have hBW := Below.both (show Below w.heap.size w _ from by repeat (first | exact Below.refl _ _ | refine Below.drew ?_ | refine below_drewN ?_ _ | refine Below.alloc ?_ (by first | (simp; done) | (simp; omega)) _)) hb1
  have HA := Lib.hid ((NumAt.new (n := a) (g := w.heap.size) rfl).alloc _ |>.below hb1)
  have HBb := Lib.hid ((NumAt.new (n := b) (g := w.heap.size + 1) (by simp)).below hb1)
  clear hb1
  obtain ⟨a0, a1, a2, a3⟩ := HA.out.four
  obtain ⟨b0, b1, b2, b3⟩ := HBb.out.four
  have z1 := HA.out.size; have z2 := HBb.out.size
  go_wp2_with fail
  go_region_held3 (fun w' => (∀ b o, b < W.heap.size → w'.cell? ⟨b, o, none⟩ = W.cell? ⟨b, o, none⟩) ∧ Below W.heap.size W w')
    (first | exact ⟨fun b o h => rfl, (Below.refl _ _).drew⟩ | (go_split_ands; exact seen (by assumption) hb9))
    (first | (go_at_call 21; (with_reducible refine (K0.out _).mono ?_); rintro e w9 ⟨rfl, hb9⟩) | (go_at_call 22; (with_reducible refine (K1.out _).mono ?_); rintro e w9 ⟨rfl, hb9⟩))
  go_wp2
  go_ret
  go_split_ands
  exact ⟨rfl, Below.both hBW (by assumption)⟩
end Go.Proofs.Ytpdanniolgoimaa
