/- What the proof of PointMultiples is made of, part 3. -/
import Derived.Test.YtkfjhndofbmhoaaZPointMultiples2
import Derived.ProofKit
import Derived.OpenShut
import Derived.Lib.SmallJoins
import Derived.SizedLaws
namespace Go.Proofs.Ytkfjhndofbmhoaa
open Go.RowKit Go.ChangeShapes Go.WideShapes
set_option linter.unusedVariables false
set_option linter.unusedSimpArgs false
section
variable {H : Type} {enc : TypeId × Value → H} {P : Program} {W : World} {base : Nat} {spare : Nat → Bool} {held : Bool}
theorem okWide_arr {w : World} {r : Reach} {t e : TypeId} {n : Nat} {v : Value} {b : Nat} (ht : P.underlying t = some (.array n e)) (h : Value.okWide P w r b t v) : ∃ cs, v = .agg cs ∧ cs.size = P.cellsOf t := by
 simp only [Value.okWide, ht] at h
 obtain ⟨cs, h1, h2, _⟩ := h
 exact ⟨cs, h1, h2⟩
theorem nat_of_wf {n : Int} (h : (Lit.int .u64 n).wf = true) : ∃ k : Nat, n = (k : Int) ∧ k < N64 := by
 have h := bounds_u64 h
 obtain ⟨k, rfl⟩ := Int.eq_ofNat_of_zero_le h.1
 exact ⟨k, rfl, by unfold N64; omega⟩
/-- A number by value. -/
theorem open_num {b : Nat} {v : Value} {d : DataW H} {p : List MemPlace} (hv : Value.okWide Try.prog W .any b 24 v) (h : DataW.Trod enc Try.prog W base spare held 24 v d p) :
  ∃ n, v = numV n ∧ n < N256 := by
 have hu : Try.prog.underlying 24 = some (.array 4 22) := by kernel_rfl
 have hc : Try.prog.cellsOf 22 = 1 := by kernel_rfl
 have hc4 : Try.prog.cellsOf 24 = 4 := by kernel_rfl
 have he : Try.prog.underlying 22 = some (.int .u64) := by kernel_rfl
 obtain ⟨cs, rfl, hs⟩ := okWide_arr hu hv
 rw [hc4] at hs
 obtain ⟨c0, c1, c2, c3, rfl⟩ := Joins.array4 hs
 obtain ⟨fuel, hf⟩ := h
 obtain ⟨xs, m, _, _, _, hl, hx⟩ := DataW.trod_array hu hf
 have g : ∀ (i : Nat) (c : Value), i < 4 → ([c0, c1, c2, c3] : List Value)[i]? = some c → ∃ k : Nat, c = .int .u64 (k : Int) ∧ k < N64 := by
  intro i c hi hc'
  have h1 := hx i hi
  rw [hc, Nat.mul_one] at h1
  have e : ((Value.agg #[c0, c1, c2, c3]).cells.toList.drop i).take 1 = [c] := by
   have : i = 0 ∨ i = 1 ∨ i = 2 ∨ i = 3 := by omega
   rcases this with rfl | rfl | rfl | rfl <;> (simp at hc'; subst hc'; rfl)
  rw [e] at h1
  obtain ⟨y, hy⟩ : ∃ y, xs[i]? = some y := ⟨xs[i]'(Nat.lt_of_lt_of_eq hi hl.symm), List.getElem?_eq_getElem (Nat.lt_of_lt_of_eq hi hl.symm)⟩
  rw [hy] at h1
  obtain ⟨n, hn, _, wn⟩ := DataW.trod_int he h1
  obtain ⟨k, rfl, hk⟩ := nat_of_wf wn
  simp at hn
  exact ⟨k, hn, hk⟩
 obtain ⟨k0, rfl, h0⟩ := g 0 _ (by omega) rfl
 obtain ⟨k1, rfl, h1⟩ := g 1 _ (by omega) rfl
 obtain ⟨k2, rfl, h2⟩ := g 2 _ (by omega) rfl
 obtain ⟨k3, rfl, h3⟩ := g 3 _ (by omega) rfl
 exact ⟨val4 k0 k1 k2 k3, numV_of h0 h1 h2 h3, val4_lt h0 h1 h2 h3⟩
end
end Go.Proofs.Ytkfjhndofbmhoaa
