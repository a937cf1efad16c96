/- A law's argument, opened: a slice of bytes. -/
import Derived.Test.YtpdanniolgoimaaOpen
namespace Go.Proofs.Ytpdanniolgoimaa
open Go.RowKit Go.ChangeShapes Go.WideShapes
set_option linter.unusedVariables false
set_option linter.unusedSimpArgs false
section
variable {H : Type} {enc : TypeId × Value → H} {P : Program} {W : World} {base : Nat} {spare : Nat → Bool} {held : Bool}
theorem byte_of_wf {n : Int} (h : (Lit.int .u8 n).wf = true) : ∃ k : Nat, n = (k : Int) ∧ k < 256 := by
  have h := bounds_u8 h
  obtain ⟨k, rfl⟩ := Int.eq_ofNat_of_zero_le h.1
  exact ⟨k, rfl, by omega⟩
/-- A slice of bytes. -/
theorem open_bytes {b : Nat} {v : Value} {d : DataW H} {p : List MemPlace} {ts : List TypeId} {ds : List (DataW H)} (hsz : (DataW.weightsEach Try.prog ts ds).all (· ≤ reachBytes) = true) (j : Nat) (ht : ts[j]? = some 25) (hd : ds[j]? = some d)
    (hv : Value.okWide Try.prog W .any b 25 v) (h : DataW.Trod enc Try.prog W base (fun _ => true) held 25 v d p) :
    ∃ (A : Option Addr) (n c : Nat), v = .slice A n c ∧ ∃ bs : List Nat, BAt W A bs ∧ bs.length = n ∧ n ≤ 140737488351232 := by
  have hu : Try.prog.underlying 25 = some (.slice 5) := by kernel_rfl
  have he : Try.prog.underlying 5 = some (.int .u8) := by kernel_rfl
  have hc : Try.prog.cellsOf 5 = 1 := by kernel_rfl
  have hB : Try.prog.bytesOf 5 = 1 := by kernel_rfl
  obtain ⟨A, n, c, rfl⟩ := okWide_slice hu hv
  refine ⟨A, n, c, rfl, ?_⟩
  obtain ⟨fuel, hf⟩ := h
  rcases open_ints hu he hc hf with ⟨hcs, _⟩ | ⟨x, l, cc, zs, hcs, _, hl, hm, hz, hx, hcell, hwz⟩
  · simp [Value.cells] at hcs
    obtain ⟨rfl, rfl, rfl⟩ := hcs
    exact ⟨[], ⟨.inl rfl, fun i => by simp⟩, rfl, by omega⟩
  · simp [Value.cells] at hcs
    obtain ⟨rfl, rfl, rfl⟩ := hcs
    obtain ⟨hx, _⟩ := Prod.mk.inj hx
    subst hx
    have z := sized_slice hsz ht hd hu
    rw [hB] at z
    have hz' : zs.length = c := by simpa using hz
    have h1 : (lits (H := H) .u8 (zs.take n)).length + (lits (H := H) .u8 (zs.drop n)).length = zs.length := by
      simp [lits]; omega
    rw [h1] at z
    have hle : n ≤ 140737488351232 := by
      have : zs.length * 1 ≤ 140737488351232 := z
      omega
    have hb : ∀ i, (((zs.take n).map Int.toNat).getD i 0) < 256 ∧ (i < n → zs.getD i 0 = (((zs.take n).map Int.toNat).getD i 0 : Nat)) := by
      intro i
      by_cases hi : i < n
      · have hi2 : i < zs.length := by omega
        obtain ⟨k, hk, hk2⟩ := byte_of_wf (hwz zs[i] (List.getElem_mem hi2))
        have e : (((zs.take n).map Int.toNat).getD i 0) = k := by
          simp [List.getD, List.getElem?_map, List.getElem?_take, hi, hi2, hk]
        rw [e]
        exact ⟨hk2, fun _ => by simp [List.getD, hi2, hk]⟩
      · have e : (((zs.take n).map Int.toNat).getD i 0) = 0 := by
          rw [List.getD_eq_getElem?_getD, List.getElem?_eq_none (by simp; omega)]; rfl
        rw [e]
        exact ⟨by omega, fun h => absurd h hi⟩
    refine ⟨(zs.take n).map Int.toNat, ⟨?_, fun i => (hb i).1⟩, by simp; omega, hle⟩
    by_cases h0 : n = 0
    · exact .inl (by rw [h0]; simp)
    · obtain ⟨bk, off, rfl, hc2⟩ := ints_at hcell (by omega)
      refine .inr ⟨bk, off, rfl, ?_, fun i hi => ?_⟩
      · have := World.block_lt_of_cell? _ _ (hc2 0 (by omega))
        exact this
      · have hi' : i < n := by simp at hi; omega
        rw [hc2 i (by omega), (hb i).2 hi']
end
end Go.Proofs.Ytpdanniolgoimaa
