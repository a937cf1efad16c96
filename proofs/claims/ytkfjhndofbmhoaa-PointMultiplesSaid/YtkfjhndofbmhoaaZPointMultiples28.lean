/- What the proof of PointMultiples is made of, part 28. -/
import Derived.Test.YtkfjhndofbmhoaaZPointMultiples3
import Derived.Test.YtkfjhndofbmhoaaZPointMultiples27
namespace Go.Proofs.Ytkfjhndofbmhoaa
open Go.RowKit Go.ChangeShapes Go.WideShapes
set_option linter.unusedVariables false
set_option linter.unusedSimpArgs false
section
variable {H : Type} {enc : TypeId × Value → H} {P : Program} {W : World} {base : Nat} {spare : Nat → Bool} {held : Bool}
theorem num_cells {fuel : Nat} {cs : List Value} {x : DataW H × List MemPlace} (hs : cs.length = 4) (hf : DataW.trod enc Try.prog W base spare held fuel 24 cs = some x) :
  ∃ n, cs = nw n ∧ n < N256 := by
 have hu : Try.prog.underlying 24 = some (.array 4 22) := by kernel_rfl
 have hc : Try.prog.cellsOf 22 = 1 := by kernel_rfl
 have he : Try.prog.underlying 22 = some (.int .u64) := by kernel_rfl
 obtain ⟨c0, c1, c2, c3, rfl⟩ : ∃ c0 c1 c2 c3, cs = [c0, c1, c2, c3] := by
  match cs, hs with
  | [c0, c1, c2, c3], _ => exact ⟨c0, c1, c2, c3, rfl⟩
 obtain ⟨xs, m, _, _, _, hl, hx⟩ := DataW.trod_array hu hf
 have g : ∀ (i : Nat) (c : Value), i < 4 → ([c0, c1, c2, c3] : List Value)[i]? = some c → ∃ k : Nat, c = .int .u64 (k : Int) ∧ k < N64 := by
  intro i c hi hc'
  have h1 := hx i hi
  rw [hc, Nat.mul_one] at h1
  have e : (([c0, c1, c2, c3] : List Value).drop i).take 1 = [c] := by
   have : i = 0 ∨ i = 1 ∨ i = 2 ∨ i = 3 := by omega
   rcases this with rfl | rfl | rfl | rfl <;> (simp at hc'; subst hc'; rfl)
  rw [e] at h1
  obtain ⟨y, hy⟩ : ∃ y, xs[i]? = some y := ⟨xs[i]'(Nat.lt_of_lt_of_eq hi hl.symm), List.getElem?_eq_getElem (Nat.lt_of_lt_of_eq hi hl.symm)⟩
  rw [hy] at h1
  obtain ⟨n, hn, _, wn⟩ := DataW.trod_int he h1
  obtain ⟨k, rfl, hk⟩ := nat_of_wf wn
  simp at hn
  exact ⟨k, hn, hk⟩
 obtain ⟨k0, rfl, h0⟩ := g 0 _ (by omega) rfl
 obtain ⟨k1, rfl, h1⟩ := g 1 _ (by omega) rfl
 obtain ⟨k2, rfl, h2⟩ := g 2 _ (by omega) rfl
 obtain ⟨k3, rfl, h3⟩ := g 3 _ (by omega) rfl
 refine ⟨val4 k0 k1 k2 k3, ?_, val4_lt h0 h1 h2 h3⟩
 have := numV_of h0 h1 h2 h3
 rw [numV_nw] at this
 injection this with this
 exact congrArg Array.toList this
theorem cut9 (cs : List Value) (h : cs.length = 9) : cs = (cs.drop 0).take 4 ++ ((cs.drop 4).take 4 ++ (cs.drop 8).take 1) := by
 match cs, h with
 | [a0, a1, a2, a3, a4, a5, a6, a7, a8], _ => rfl
theorem list3 {α : Type} {xs : List α} (h : xs.length = 3) : ∃ y0 y1 y2, xs = [y0, y1, y2] := by
 match xs, h with
 | [y0, y1, y2], _ => exact ⟨y0, y1, y2, rfl⟩
/-- A point by value. -/
theorem open_pt {b : Nat} {v : Value} {d : DataW H} {p : List MemPlace} (hv : Value.okWide Try.prog W .any b 26 v) (h : DataW.Trod enc Try.prog W base spare held 26 v d p) :
  ∃ x y f, v = ptV x y f ∧ (x < N256 ∧ y < N256) := by
 have hu : Try.prog.underlying 26 = some (.struct (Try.prog.fieldsOf 26)) := by kernel_rfl
 have hc9 : Try.prog.cellsOf 26 = 9 := by kernel_rfl
 have hc4 : Try.prog.cellsOf 24 = 4 := by kernel_rfl
 have hc1 : Try.prog.cellsOf 4 = 1 := by kernel_rfl
 have hb : Try.prog.underlying 4 = some .bool := by kernel_rfl
 obtain ⟨cs, rfl, hs⟩ := okWide_struct hu hv
 rw [hc9] at hs
 obtain ⟨fuel, hf⟩ := h
 obtain ⟨xs, m, _, _, _, hl, hx⟩ := DataW.trod_struct hu hf
 have hp := pt_fields
 generalize Try.prog.fieldsOf 26 = fs at hp hx hl
 obtain ⟨fs⟩ := fs
 obtain ⟨f0, r0, rfl, e0, hp⟩ := List.map_eq_cons_iff.1 hp
 obtain ⟨f1, r1, rfl, e1, hp⟩ := List.map_eq_cons_iff.1 hp
 obtain ⟨f2, r2, rfl, e2, hp⟩ := List.map_eq_cons_iff.1 hp
 rw [List.map_eq_nil_iff] at hp
 subst hp
 injection e0 with n0 e0
 injection e0 with t0 o0
 injection e1 with n1 e1
 injection e1 with t1 o1
 injection e2 with n2 e2
 injection e2 with t2 o2
 have hl3 : xs.length = 3 := hl
 obtain ⟨y0, y1, y2, rfl⟩ := list3 hl3
 have h0 := hx 0 f0 rfl
 have h1 := hx 1 f1 rfl
 have h2 := hx 2 f2 rfl
 rw [t0, o0, hc4] at h0
 rw [t1, o1, hc4] at h1
 rw [t2, o2, hc1] at h2
 obtain ⟨cs⟩ := cs
 have hs9 : cs.length = 9 := hs
 change DataW.trod enc Try.prog W base spare held m 24 ((cs.drop 0).take 4) = some y0 at h0
 change DataW.trod enc Try.prog W base spare held m 24 ((cs.drop 4).take 4) = some y1 at h1
 change DataW.trod enc Try.prog W base spare held m 4 ((cs.drop 8).take 1) = some y2 at h2
 obtain ⟨x, ex, hx1⟩ := num_cells (by rw [List.length_take, List.length_drop, hs9]; rfl) h0
 obtain ⟨y, ey, hy1⟩ := num_cells (by rw [List.length_take, List.length_drop, hs9]; rfl) h1
 obtain ⟨f, ef, _⟩ := DataW.trod_bool hb h2
 refine ⟨x, y, f, ?_, hx1, hy1⟩
 unfold ptV pw
 have e := cut9 cs hs9
 rw [ex, ey, ef] at e
 rw [e]
end
end Go.Proofs.Ytkfjhndofbmhoaa
