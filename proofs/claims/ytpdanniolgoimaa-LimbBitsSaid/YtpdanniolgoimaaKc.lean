/- clapperlaw01.LimbBits: the walk. -/
import Derived.Test.YtpdanniolgoimaaKa
import Derived.Test.YtpdanniolgoimaaUp
import Derived.Test.YtpdanniolgoimaaRe
import Derived.Deep.QuietTactic
import Derived.BigQuiet
namespace Go.Proofs.Ytpdanniolgoimaa
open Go.RowKit
set_option linter.unusedVariables false
set_option linter.unusedSimpArgs false
attribute [local go_sem high] eqA_num eqA_wide

set_option maxRecDepth 100000 in
set_option maxHeartbeats 1600000 in
theorem bits_walk {a : Nat} (ha : a < N256) (i : Int) (w : World) :
    Calls Try.prog 8 #[numV a, .int .i64 i] w fun e w' => e = .returned (.bool true) ∧ Below w.heap.size w w' := by
  have P0 := fun w => half_calls (IsNum.mk ha) w
  have P1 := fun w => rhalf_calls (IsNum.mk ha) w
  have P2 := fun w => bit_calls (IsNum.mk ha) i w
  have P3 := fun w => rbit_calls (IsNum.mk ha) i w
  have P4 := fun w => len_calls (IsNum.mk ha) w
  have P5 := fun w => rlen_calls (IsNum.mk ha) w
  have PU := fun w => up_calls w
  rw [numV_def a] at P0 P1 P2 P3 P4 P5
  rw [numV_def] at P0 P1
  generalize a / 2 = n1 at P0 P1
  generalize bitI a i = o1 at P2 P3
  generalize lenN a = n2 at P4 P5
  have K0 := Lib.hid P0; have K1 := Lib.hid P1; have K2 := Lib.hid P2; have K3 := Lib.hid P3; have K4 := Lib.hid P4; have K5 := Lib.hid P5; have KU := Lib.hid PU
  clear P0 P1 P2 P3 P4 P5 PU
  rw [numV_def a]
  go_enter Try.func8, Try.ntmps8
  go_wp2_with fail
  refine (KU.out _).mono ?_
  rintro e W ⟨rfl, hb1⟩
  have hBW := Below.both (show Below w.heap.size w _ from by repeat (first | exact Below.refl _ _ | refine Below.drew ?_ | refine below_drewN ?_ _ | refine Below.alloc ?_ (by first | (simp; done) | (simp; omega)) _)) hb1
  have HA := Lib.hid ((NumAt.new (n := a) (g := w.heap.size) rfl).below hb1)
  clear hb1
  obtain ⟨a0, a1, a2, a3⟩ := HA.out.four
  have z1 := HA.out.size
  go_wp2_with fail
  go_region_held3 (fun w' => (∀ b o, b < W.heap.size → w'.cell? ⟨b, o, none⟩ = W.cell? ⟨b, o, none⟩) ∧ Below W.heap.size W w')
    (first | exact ⟨fun b o h => rfl, (Below.refl _ _).drew⟩ | (go_split_ands; exact seen (by assumption) hb9))
    (first | (go_at_call 23; (with_reducible refine (K0.out _).mono ?_); rintro e w9 ⟨rfl, hb9⟩) | (go_at_call 25; (with_reducible refine (K1.out _).mono ?_); rintro e w9 ⟨rfl, hb9⟩) | (go_at_call 24; (with_reducible refine (K2.out _).mono ?_); rintro e w9 ⟨rfl, hb9⟩) | (go_at_call 26; (with_reducible refine (K3.out _).mono ?_); rintro e w9 ⟨rfl, hb9⟩) | (go_at_call 27; (with_reducible refine (K4.out _).mono ?_); rintro e w9 ⟨rfl, hb9⟩) | (go_at_call 28; (with_reducible refine (K5.out _).mono ?_); rintro e w9 ⟨rfl, hb9⟩))
  go_wp2
  go_ret
  go_split_ands
  exact ⟨rfl, Below.both hBW (by assumption)⟩
end Go.Proofs.Ytpdanniolgoimaa
