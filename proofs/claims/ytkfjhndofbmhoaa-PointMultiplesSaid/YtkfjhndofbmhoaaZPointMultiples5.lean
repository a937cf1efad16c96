/- What the proof of PointMultiples is made of, part 5. -/
import Derived.Below
import Derived.WalkKit
import Derived.Deep.MidRow
import Derived.Laws.Rows
import Derived.Lib.Hide
import Derived.Test.YtkfjhndofbmhoaaZPointMultiples4
namespace Go.Proofs.Ytkfjhndofbmhoaa.Arr
open Go.RowKit Go.Proofs.YtkfjhndofbmhoaaW.PrintWords
set_option linter.unusedVariables false
set_option linter.unusedSimpArgs false
/-- cells of whole numbers -/
def ints (k : IntKind) (xs : List Int) : List Value := xs.map (Value.int k)
theorem ints_length (k : IntKind) (xs : List Int) : (ints k xs).length = xs.length := by simp [ints]
theorem ints_get (k : IntKind) (xs : List Int) (i : Nat) (h : i < xs.length) : (ints k xs)[i]? = some (.int k (rd xs i)) := by
 simp [ints, rd, List.getD, h]
theorem ints_set (k : IntKind) (xs : List Int) (i : Nat) (v : Int) : (ints k xs).set i (.int k v) = ints k (xs.set i v) := by
 simp [ints, List.map_set]
/-- block g is an array (of type T) of numbers of kind k -/
def Arr (k : IntKind) (T : TypeId) (w : World) (g : Nat) (xs : List Int) : Prop := w.heap[g]? = some (.cells (ints k xs).toArray T (0, 0))
section
variable {k : IntKind} {T : TypeId} {w w' : World} {g : Nat} {xs : List Int}
theorem Arr.size (h : Arr k T w g xs) : g < w.heap.size := (Array.getElem?_eq_some_iff.1 h).1
theorem Arr.cell (h : Arr k T w g xs) (i : Nat) (hi : i < xs.length) : w.cell? ⟨g, i, none⟩ = some (.int k (rd xs i)) := by
 have h : w.heap[g]? = _ := h
 simp only [World.cell?, h]
 simpa using ints_get k xs i hi
theorem Arr.free (h : Arr k T w g xs) (i : Nat) : w.frozen? ⟨g, i, none⟩ = false := by
 have h : w.heap[g]? = _ := h
 simp [World.frozen?, h]
theorem Arr.block (h : Arr k T w g xs) (hb : w'.heap[g]? = w.heap[g]?) : Arr k T w' g xs := by
 show w'.heap[g]? = _
 rw [hb]
 exact h
theorem Arr.alloc (h : Arr k T w g xs) (o : Obj) : Arr k T (w.alloc o) g xs := h.block (Below.heap_alloc _ _ _ h.size)
theorem Arr.drew (h : Arr k T w g xs) : Arr k T w.drew g xs := h
theorem Arr.drewN (h : Arr k T w g xs) (n : Nat) : Arr k T (w.drewN n) g xs := h.block rfl
theorem Arr.below {B : Nat} (h : Arr k T w g xs) (hb : Below B w w') (hg : g < B) : Arr k T w' g xs := h.block (hb.block g hg)
theorem Arr.set (h : Arr k T w g xs) (i : Nat) (v : Int) : Arr k T (w.setCell ⟨g, i, none⟩ (.int k v)) g (xs.set i v) := by
 have h0 := heap_setCell_same w g i _ T (.int k v) h
 show (w.setCell ⟨g, i, none⟩ (.int k v)).heap[g]? = _
 rw [h0, ← ints_set]
 simp
theorem Arr.new (w : World) (k : IntKind) (T : TypeId) (xs : List Int) : Arr k T (w.alloc (.cells (ints k xs).toArray T)) w.heap.size xs := heap_alloc_new w _
theorem Arr.range (h : Arr k T w g xs) : w.rangeAt g 0 (ints k xs) := by
 intro j v hv
 have hj : j < xs.length := by rw [← ints_length k]; exact (List.getElem?_eq_some_iff.1 hv).1
 rw [Nat.zero_add, h.cell j hj, ← ints_get k xs j hj, hv]
theorem Arr.there (h : Arr k T w g xs) {n : Nat} (hn : n = xs.length) : w.there g 0 n := by
 subst hn
 intro j hj
 rw [Nat.zero_add]
 exact ⟨by rw [h.cell j hj]; rfl, h.free j⟩
theorem Arr.setCellsAt {k : IntKind} {T : TypeId} {g : Nat} : ∀ (ys pre xs : List Int) (w : World), Arr k T w g (pre ++ xs) → xs.length = ys.length → Arr k T (w.setCells g pre.length (ints k ys)) g (pre ++ ys)
 | [], pre, xs, w, h, hl => by
  obtain rfl := List.length_eq_zero_iff.1 hl
  exact h
 | y :: ys, pre, [], w, h, hl => by cases hl
 | y :: ys, pre, x :: xs, w, h, hl => by
  show Arr k T ((w.setCell ⟨g, pre.length, none⟩ (.int k y)).setCells g (pre.length + 1) (ints k ys)) g _
  have h1 := h.set pre.length y
  rw [List.set_append_right _ _ (Nat.le_refl _), Nat.sub_self, List.set_cons_zero] at h1
  have h2 := Arr.setCellsAt ys (pre ++ [y]) xs (w.setCell ⟨g, pre.length, none⟩ (.int k y)) (by rw [List.append_assoc]; exact h1) (by simpa using hl)
  rw [List.length_append, List.append_assoc] at h2
  exact h2
theorem Arr.setCells {ys : List Int} (h : Arr k T w g xs) (hl : xs.length = ys.length) : Arr k T (w.setCells g 0 (ints k ys)) g ys := Arr.setCellsAt ys [] xs w h hl
end
end Go.Proofs.Ytkfjhndofbmhoaa.Arr
