/- A law's argument, opened: a wide number of eight words. -/
import Derived.Test.YtojjbcjndgekmaaOpen
namespace Go.Proofs.Ytojjbcjndgekmaa
open Go.RowKit Go.ChangeShapes Go.WideShapes
set_option linter.unusedVariables false
set_option linter.unusedSimpArgs false
section
variable {H : Type} {enc : TypeId × Value → H} {P : Program} {W : World} {base : Nat} {spare : Nat → Bool} {held : Bool}
theorem array8 {cs : Array Value} (h : cs.size = 8) : ∃ c0 c1 c2 c3 c4 c5 c6 c7, cs = #[c0, c1, c2, c3, c4, c5, c6, c7] := by
  obtain ⟨l⟩ := cs
  match l, h with
  | [c0, c1, c2, c3, c4, c5, c6, c7], _ => exact ⟨c0, c1, c2, c3, c4, c5, c6, c7, rfl⟩
/-- A wide number by value. -/
theorem open_wide {b : Nat} {v : Value} {d : DataW H} {p : List MemPlace} (hv : Value.okWide Try.prog W .any b 40 v) (h : DataW.Trod enc Try.prog W base spare held 40 v d p) :
    ∃ n, v = wideV n ∧ n < N512 := by
  have hu : Try.prog.underlying 40 = some (.array 8 22) := by kernel_rfl
  have hc : Try.prog.cellsOf 22 = 1 := by kernel_rfl
  have hc4 : Try.prog.cellsOf 40 = 8 := by kernel_rfl
  have he : Try.prog.underlying 22 = some (.int .u64) := by kernel_rfl
  obtain ⟨cs, rfl, hs⟩ := okWide_arr hu hv
  rw [hc4] at hs
  obtain ⟨c0, c1, c2, c3, c4, c5, c6, c7, rfl⟩ := array8 hs
  obtain ⟨fuel, hf⟩ := h
  obtain ⟨xs, m, _, _, _, hl, hx⟩ := DataW.trod_array hu hf
  have g : ∀ (i : Nat) (c : Value), i < 8 → ([c0, c1, c2, c3, c4, c5, c6, c7] : List Value)[i]? = some c → ∃ k : Nat, c = .int .u64 (k : Int) ∧ k < N64 := by
    intro i c hi hc'
    have h1 := hx i hi
    rw [hc, Nat.mul_one] at h1
    have e : ((Value.agg #[c0, c1, c2, c3, c4, c5, c6, c7]).cells.toList.drop i).take 1 = [c] := by
      have : i = 0 ∨ i = 1 ∨ i = 2 ∨ i = 3 ∨ i = 4 ∨ i = 5 ∨ i = 6 ∨ i = 7 := by omega
      rcases this with rfl | rfl | rfl | rfl | rfl | rfl | rfl | rfl <;> (simp at hc'; subst hc'; rfl)
    rw [e] at h1
    obtain ⟨y, hy⟩ : ∃ y, xs[i]? = some y := ⟨xs[i], List.getElem?_eq_getElem (by omega)⟩
    rw [hy] at h1
    obtain ⟨n, hn, _, wn⟩ := DataW.trod_int he h1
    obtain ⟨k, rfl, hk⟩ := nat_of_wf wn
    simp at hn
    exact ⟨k, hn, hk⟩
  obtain ⟨k0, rfl, h0⟩ := g 0 _ (by omega) rfl
  obtain ⟨k1, rfl, h1⟩ := g 1 _ (by omega) rfl
  obtain ⟨k2, rfl, h2⟩ := g 2 _ (by omega) rfl
  obtain ⟨k3, rfl, h3⟩ := g 3 _ (by omega) rfl
  obtain ⟨k4, rfl, h4⟩ := g 4 _ (by omega) rfl
  obtain ⟨k5, rfl, h5⟩ := g 5 _ (by omega) rfl
  obtain ⟨k6, rfl, h6⟩ := g 6 _ (by omega) rfl
  obtain ⟨k7, rfl, h7⟩ := g 7 _ (by omega) rfl
  exact ⟨val8 k0 k1 k2 k3 k4 k5 k6 k7, by rw [← wideV_of h0 h1 h2 h3 h4 h5 h6 h7], val8_lt h0 h1 h2 h3 h4 h5 h6 h7⟩
end
end Go.Proofs.Ytojjbcjndgekmaa
