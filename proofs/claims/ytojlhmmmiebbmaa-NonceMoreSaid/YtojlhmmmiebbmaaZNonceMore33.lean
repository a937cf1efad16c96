/- What the proof of NonceMore is made of, part 33. -/
import Derived.Test.YtojlhmmmiebbmaaZNonceMore32
import Derived.Test.YtojlhmmmiebbmaaZNonceMore29
namespace Go.Proofs.Ytojlhmmmiebbmaa
open Go.RowKit Go.ChangeShapes Go.WideShapes Go.Proofs.Ytojlhmmmiebbmaa.Arr Go.Proofs.Ytojlhmmmiebbmaa.PNonceLists
set_option linter.unusedVariables false
set_option linter.unusedSimpArgs false
section
variable {H : Type} {enc : TypeId × Value → H} {W : World} {base : Nat} {spare : Nat → Bool} {held : Bool}
theorem u8_of_wf {n : Int} (h : (Lit.int .u8 n).wf = true) : ∃ k : Nat, n = (k : Int) ∧ k < 256 := by
  have h := bounds_u8 h
  obtain ⟨k, rfl⟩ := Int.eq_ofNat_of_zero_le h.1
  exact ⟨k, rfl, by omega⟩
/-- A digest by value. -/
theorem open_dig {b : Nat} {v : Value} {d : DataW H} {p : List MemPlace} (hv : Value.okWide Try.prog W .any b 26 v) (h : DataW.Trod enc Try.prog W base spare held 26 v d p) :
    ∃ l : List Nat, v = digV l ∧ (l.length = 32 ∧ Bs l) := by
  have hu : Try.prog.underlying 26 = some (.array 32 5) := by kernel_rfl
  have hc : Try.prog.cellsOf 5 = 1 := by kernel_rfl
  have hc4 : Try.prog.cellsOf 26 = 32 := by kernel_rfl
  have he : Try.prog.underlying 5 = some (.int .u8) := by kernel_rfl
  obtain ⟨cs, rfl, hs⟩ := okWide_arr hu hv
  rw [hc4] at hs
  obtain ⟨fuel, hf⟩ := h
  obtain ⟨xs, m, _, _, _, hl, hx⟩ := DataW.trod_array hu hf
  have g : ∀ (i : Nat) (c : Value), cs.toList[i]? = some c → ∃ k : Nat, c = .int .u8 (k : Int) ∧ k < 256 := by
    intro i c hc'
    have hi : i < 32 := by
      have h1 := (List.getElem?_eq_some_iff.1 hc').1
      rw [Array.length_toList, hs] at h1
      exact h1
    have h1 := hx i hi
    rw [hc, Nat.mul_one] at h1
    have e : ((Value.agg cs).cells.toList.drop i).take 1 = [c] := by
      show (cs.toList.drop i).take 1 = [c]
      rw [List.take_one, List.head?_drop, hc']
      rfl
    rw [e] at h1
    obtain ⟨y, hy⟩ : ∃ y, xs[i]? = some y := ⟨xs[i]'(Nat.lt_of_lt_of_eq hi hl.symm), List.getElem?_eq_getElem (Nat.lt_of_lt_of_eq hi hl.symm)⟩
    rw [hy] at h1
    obtain ⟨n, hn, _, wn⟩ := DataW.trod_int he h1
    obtain ⟨k, rfl, hk⟩ := u8_of_wf wn
    simp at hn
    exact ⟨k, hn, hk⟩
  have hall : ∀ (vs : List Value), (∀ c ∈ vs, ∃ k : Nat, c = .int .u8 (k : Int) ∧ k < 256) → ∃ l : List Nat, vs = ints .u8 (cN l) ∧ Bs l := by
    intro vs
    induction vs with
    | nil => exact fun _ => ⟨[], rfl, bs_of_mem (fun y hy => by cases hy)⟩
    | cons c vs ih =>
      intro hvs
      obtain ⟨k, rfl, hk⟩ := hvs c (List.mem_cons_self ..)
      obtain ⟨l, rfl, hb⟩ := ih (fun c hc => hvs c (List.mem_cons_of_mem _ hc))
      refine ⟨k :: l, rfl, ?_⟩
      intro i
      cases i with
      | zero => exact hk
      | succ i => exact hb i
  obtain ⟨l, hl2, hb⟩ := hall cs.toList (fun c hc => by
    obtain ⟨i, hi⟩ := List.getElem?_of_mem hc
    exact g i c hi)
  refine ⟨l, ?_, ?_, hb⟩
  · unfold digV
    rw [← hl2]
  · have h1 : cs.toList.length = 32 := by rw [Array.length_toList, hs]
    rw [hl2, ints_length, cN_length] at h1
    exact h1
end
end Go.Proofs.Ytojlhmmmiebbmaa
