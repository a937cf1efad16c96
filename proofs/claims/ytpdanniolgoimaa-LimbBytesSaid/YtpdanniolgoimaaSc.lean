/- limb.Bytes: a number's 32 bytes in a new slice. -/
import Derived.Test.YtpdanniolgoimaaSa
namespace Go.Proofs.Ytpdanniolgoimaa
open Go.RowKit
set_option linter.unusedVariables false
set_option linter.unusedSimpArgs false

/-- byte i of a number, from the lowest on -/
def by8 (a i : Nat) : Nat := a / 256 ^ i % 256
theorem by8_lt (a i : Nat) : by8 a i < 256 := Nat.mod_lt _ (by omega)
def fnB (f : Nat → Nat) (m : Nat) : List Value := (List.range m).map fun j => .int .u8 (f j : Nat)
theorem fnB_length (f : Nat → Nat) (m : Nat) : (fnB f m).length = m := by simp [fnB]
theorem fnB_get (f : Nat → Nat) (m j : Nat) (h : j < m) : (fnB f m)[j]? = some (.int .u8 (f j : Nat)) := by simp [fnB, h]
theorem fnB_congr {f g : Nat → Nat} {m : Nat} (h : ∀ j, j < m → f j = g j) : fnB f m = fnB g m := by
  unfold fnB
  apply List.map_congr_left
  intro j hj
  rw [h j (List.mem_range.1 hj)]
theorem fnB_set (f : Nat → Nat) (m k v : Nat) : (fnB f m).set k (.int .u8 (v : Nat)) = fnB (fun j => if j = k then v else f j) m := by
  apply List.ext_getElem?
  intro j
  rw [List.getElem?_set, fnB_length]
  by_cases hj : j < m
  · rw [fnB_get _ _ _ hj, fnB_get _ _ _ hj]
    by_cases hk : k = j
    · subst hk; rw [if_pos rfl, if_pos hj]; simp
    · rw [if_neg hk, if_neg (fun e => hk e.symm)]
  · have h1 : ∀ f : Nat → Nat, (fnB f m)[j]? = none := fun f => List.getElem?_eq_none (by rw [fnB_length]; omega)
    rw [h1, h1]
    split
    · rw [if_neg (by omega)]
    · rfl
theorem wdk_by8 (a i : Nat) (hi : i < 32) : wdk a (i / 8) / 256 ^ (i % 8) % 256 = by8 a i := by
  have h32 : i = 0 ∨ i = 1 ∨ i = 2 ∨ i = 3 ∨ i = 4 ∨ i = 5 ∨ i = 6 ∨ i = 7 ∨ i = 8 ∨ i = 9 ∨ i = 10 ∨ i = 11 ∨ i = 12 ∨ i = 13 ∨ i = 14 ∨ i = 15 ∨ i = 16 ∨ i = 17 ∨ i = 18 ∨ i = 19 ∨ i = 20 ∨ i = 21 ∨ i = 22 ∨ i = 23 ∨ i = 24 ∨ i = 25 ∨ i = 26 ∨ i = 27 ∨ i = 28 ∨ i = 29 ∨ i = 30 ∨ i = 31 := by omega
  rcases h32 with rfl | rfl | rfl | rfl | rfl | rfl | rfl | rfl | rfl | rfl | rfl | rfl | rfl | rfl | rfl | rfl | rfl | rfl | rfl | rfl | rfl | rfl | rfl | rfl | rfl | rfl | rfl | rfl | rfl | rfl | rfl | rfl <;>
    simp only [Nat.reducePow, Nat.reduceDiv, Nat.reduceMod, by8, wdk, wd0, wd1, wd2, wd3, if_true, if_false, Nat.reduceEqDiff] <;> omega
/-- the bytes, the highest first, of which the last k are there -/
def bG (a k : Nat) : Nat → Nat := fun j => if 31 < j + k then by8 a (31 - j) else 0
theorem bG_zero (a : Nat) : fnB (bG a 0) 32 = fnB (fun _ => 0) 32 := fnB_congr fun j hj => by unfold bG; rw [if_neg (by omega)]
theorem bG_full (a : Nat) : fnB (bG a 32) 32 = fnB (fun j => by8 a (31 - j)) 32 := fnB_congr fun j hj => by unfold bG; rw [if_pos (by omega)]
theorem bG_set (a k : Nat) (hk : k < 32) : (fnB (bG a k) 32).set (31 - k) (.int .u8 (by8 a k : Nat)) = fnB (bG a (k + 1)) 32 := by
  rw [fnB_set]
  apply fnB_congr
  intro j hj
  unfold bG
  by_cases h : j = 31 - k
  · rw [if_pos h, if_pos (by omega)]; congr 1; omega
  · rw [if_neg h]
    by_cases h2 : 31 < j + k
    · rw [if_pos h2, if_pos (by omega)]
    · rw [if_neg h2, if_neg (by omega)]

set_option maxRecDepth 100000 in
set_option maxHeartbeats 800000 in
/-- limb.Bytes -/
theorem bytes_calls {va : Value} {a : Nat} (ha : IsNum va a) (w : World) :
    Calls Try.prog 12 #[va] w fun e w' => ∃ g cap, e = .returned (.slice (some ⟨g, 0, none⟩) 32 cap) ∧ w.heap.size ≤ g ∧ Rw w' 5 g (fnB (fun j => by8 a (31 - j)) 32) ∧ Below w.heap.size w w' := by
  obtain ⟨rfl, ha⟩ := ha
  rw [numV_numL]
  unfold numL
  have hmk : ∀ w : World, (Instr.makeSlice 25 (.int .i64 32) (.int .i64 32)).run Try.prog w = .ok (.slice (some ⟨w.heap.size, 0, none⟩) 32 32) (w.alloc (.cells #[.int .u8 0, .int .u8 0, .int .u8 0, .int .u8 0, .int .u8 0, .int .u8 0, .int .u8 0, .int .u8 0, .int .u8 0, .int .u8 0, .int .u8 0, .int .u8 0, .int .u8 0, .int .u8 0, .int .u8 0, .int .u8 0, .int .u8 0, .int .u8 0, .int .u8 0, .int .u8 0, .int .u8 0, .int .u8 0, .int .u8 0, .int .u8 0, .int .u8 0, .int .u8 0, .int .u8 0, .int .u8 0, .int .u8 0, .int .u8 0, .int .u8 0, .int .u8 0] 5)) := fun _ => by kernel_rfl
  go_enter Try.func12, Try.ntmps12
  go_wp2
  go_loopw [8] (fun i wr => ∃ k : Nat, k ≤ 32 ∧ i = .int .i64 k ∧ Hid (Rw wr 5 (w.heap.size + 1) (fnB (bG a k) 32)) ∧ Hid (Rw wr 24 w.heap.size (numL a)) ∧ Below w.heap.size w wr)
    (fun i _ => 32 - (intOf i).toNat)
  case atStart =>
    refine ⟨0, Nat.zero_le _, rfl, Lib.hid ?_, Lib.hid ?_, by repeat (first | exact Below.refl _ _ | refine Below.drew ?_ | refine below_drewN ?_ _ | refine Below.alloc ?_ (by first | (simp; done) | (simp; omega)) _)⟩
    · rw [bG_zero]; exact Rw.new (by simp)
    · exact (Rw.new rfl).alloc _
  case round =>
    obtain ⟨k, hk, rfl, HX, HZ, hB⟩ := hrel
    by_cases hk32 : k < 32
    · have hq : k / 8 < 4 := by omega
      have cz := HZ.out.cell (numL_get _ _ hq)
      have cx := HX.out.cell (fnB_get _ _ (31 - k) (by omega))
      have fx := HX.out.free (31 - k)
      have hw := wdk_lt a (k / 8)
      have hb := wdk_by8 a k hk32
      have HBY := Lib.hid hb
      have HST := Lib.hid (bG_set a k hk32)
      have hsz := hB.size
      clear hb
      go_wp2
      go_roundw
      case rel =>
        have e : (((wdk a (k / 8) : Nat) : Int) / 2 ^ (8 * (k % 8)) % 256) = ((by8 a k : Nat) : Int) := by
          rw [← HBY.out, pow256, Int.natCast_emod, Int.natCast_ediv, Int.natCast_pow]; rfl
        rw [e]
        refine ⟨k + 1, by omega, by go_num, Lib.hid ?_, Lib.hid ?_, ?_⟩
        · rw [← HST.out]; exact HX.out.set (31 - k) _
        · exact HZ.out.set_other (by simp) _
        · exact hB.setCell (by simp) _
      case measure => simp [intOf]; omega
    · have hk33 : k = 32 := by omega
      subst hk33
      have hx := HX.out
      rw [bG_full] at hx
      go_wp2
      go_ret
      exact ⟨_, _, rfl, by omega, hx, hB⟩
end Go.Proofs.Ytpdanniolgoimaa
