/- clapperlaw01.up, the head of all statements of the layer: it tells true. -/
import Derived.Test.YtpdanniolgoimaaLa
import Derived.Test.YtpdanniolgoimaaSb
import Derived.LaidEql
import Derived.WideLaws
namespace Go.Proofs.Ytpdanniolgoimaa
open Go.RowKit
set_option linter.unusedVariables false
set_option linter.unusedSimpArgs false
attribute [local go_sem high] eqA_num

set_option maxRecDepth 100000 in
set_option maxHeartbeats 800000 in
theorem up_calls (w : World) : Calls Try.prog 10 #[] w fun e w' => e = .returned (.bool true) ∧ Below w.heap.size w w' := by
  have hbat : BAt (w.alloc (.cells #[.int .u8 1, .int .u8 0] 5)) (some ⟨w.heap.size, 0, none⟩) [1, 0] := by
    refine ⟨.inr ⟨w.heap.size, 0, rfl, by simp, ?_⟩, ?_⟩
    · intro i hi
      have : i = 0 ∨ i = 1 := by simp at hi; omega
      rcases this with rfl | rfl <;> (rw [World.cell?_alloc_at _ _ _ _ rfl]; rfl)
    · intro i
      match i with
      | 0 => decide
      | 1 => decide
      | i + 2 => simp
  have k0 := of_calls (cap := 2) hbat (by decide)
  have k1 := fun w => add_calls (va := .agg #[.int .u64 18446744073709551615, .int .u64 18446744073709551615, .int .u64 18446744073709551615, .int .u64 18446744073709551615]) (vb := .agg #[.int .u64 1, .int .u64 0, .int .u64 0, .int .u64 0])
    (a := 115792089237316195423570985008687907853269984665640564039457584007913129639935) (b := 1) ⟨by kernel_rfl, by unfold N256; omega⟩ ⟨by kernel_rfl, by unfold N256; omega⟩ w
  rw [show numV (beN [1, 0]) = .agg #[.int .u64 256, .int .u64 0, .int .u64 0, .int .u64 0] from by kernel_rfl] at k0
  rw [show numV ((115792089237316195423570985008687907853269984665640564039457584007913129639935 + 1) % N256) = .agg #[.int .u64 0, .int .u64 0, .int .u64 0, .int .u64 0] from by kernel_rfl,
    show decide (N256 ≤ 115792089237316195423570985008687907853269984665640564039457584007913129639935 + 1) = true from by simp [N256]] at k1
  have K0 := Lib.hid k0
  have K1 := Lib.hid k1
  clear k0 k1 hbat
  go_enter Try.func10, Try.ntmps10
  go_wp2_with fail
  refine K0.out.mono ?_
  rintro e w1 ⟨rfl, hb1⟩
  have hB1 : Below w.heap.size w w1 := ((Below.refl _ _).alloc (Nat.le_refl _) _).trans (hb1.mono (by simp))
  have hs1 : w.heap.size ≤ w1.heap.size := hB1.size
  clear hb1
  go_wp2_with fail
  refine (K1.out _).mono ?_
  rintro e w2 ⟨rfl, hb2⟩
  have r1 := (Rw.new (n := w1.heap.size) rfl).below hb2 (by simp)
  obtain ⟨c0, c1, c2, c3⟩ := r1.four
  have hs2 : w1.heap.size < w2.heap.size := by have := hb2.size; simp at this; omega
  have hB2 : Below w.heap.size w w2 := (hB1.alloc hs1 _).trans (hb2.mono (by simp; omega))
  clear r1 hb2
  go_wp2
  go_ret
  exact ⟨rfl, hB2.alloc (by have := hB2.size; omega) _⟩
end Go.Proofs.Ytpdanniolgoimaa
