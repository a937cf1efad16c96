/- The bytes of a number are a number's again. -/
import Derived.Test.YtpdanniolgoimaaSc
import Derived.Test.YtpdanniolgoimaaKa
namespace Go.Proofs.Ytpdanniolgoimaa
open Go.RowKit
set_option linter.unusedVariables false
set_option linter.unusedSimpArgs false
/-- the bytes, the highest first -/
def bsL (a m : Nat) : List Nat := (List.range m).map fun j => by8 a (m - 1 - j)
theorem bsL_length (a m : Nat) : (bsL a m).length = m := by simp [bsL]
theorem bsL_succ (a m : Nat) : bsL a (m + 1) = by8 a m :: bsL a m := by
  unfold bsL
  rw [List.range_succ_eq_map, List.map_cons, List.map_map]
  congr 1
  apply List.map_congr_left
  intro j hj
  have := List.mem_range.1 hj
  simp only [Function.comp]
  congr 1; omega
theorem beN_bsL (a m : Nat) : beN (bsL a m) = a % 256 ^ m := by
  induction m with
  | zero => simp [bsL, beN, Nat.mod_one]
  | succ m ih =>
    rw [bsL_succ, beN_cons, bsL_length, ih, Nat.pow_succ, Nat.mod_mul]
    unfold by8
    rw [Nat.mul_comm]; omega
theorem beN_all (a : Nat) (ha : a < N256) : beN (bsL a 32) = a := by
  have e : 256 ^ 32 = N256 := by unfold N256; decide
  rw [beN_bsL, e]; exact Nat.mod_eq_of_lt ha
theorem bsL_getD (a m j : Nat) (h : j < m) : (bsL a m).getD j 0 = by8 a (m - 1 - j) := by simp [bsL, h]
theorem bsL_lt (a m : Nat) : ∀ i, (bsL a m).getD i 0 < 256 := by
  intro i
  by_cases h : i < m
  · rw [bsL_getD _ _ _ h]; exact by8_lt _ _
  · rw [List.getD_eq_getElem?_getD, List.getElem?_eq_none (by rw [bsL_length]; omega)]; simp
theorem BAt.of_rw {w : World} {g a : Nat} (h : Rw w 5 g (fnB (fun j => by8 a (31 - j)) 32)) : BAt w (some ⟨g, 0, none⟩) (bsL a 32) := by
  refine ⟨.inr ⟨g, 0, rfl, h.size, fun i hi => ?_⟩, bsL_lt a 32⟩
  rw [bsL_length] at hi
  rw [bsL_getD _ _ _ hi, Nat.zero_add]
  exact h.cell (fnB_get _ _ _ hi)
end Go.Proofs.Ytpdanniolgoimaa
