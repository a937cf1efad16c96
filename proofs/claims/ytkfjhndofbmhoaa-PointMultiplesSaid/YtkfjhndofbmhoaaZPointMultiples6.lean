/- What the proof of PointMultiples is made of, part 6. -/
import Derived.Test.YtkfjhndofbmhoaaZPointMultiples5
import Derived.WalkSmall
import Derived.Great.BuildSlice
import Derived.Great.Walk
namespace Go.Proofs.Ytkfjhndofbmhoaa.Arr
open Go.RowKit Go.Proofs.YtkfjhndofbmhoaaW.PrintWords
set_option linter.unusedVariables false
set_option linter.unusedSimpArgs false
/-- block g is a variable of type T with these cells -/
def Row (T : TypeId) (w : World) (g : Nat) (vs : List Value) : Prop := w.heap[g]? = some (.cells vs.toArray T (0, 0))
section
variable {T : TypeId} {w w' : World} {g : Nat} {vs : List Value}
theorem Row.size (h : Row T w g vs) : g < w.heap.size := (Array.getElem?_eq_some_iff.1 h).1
theorem Row.cell (h : Row T w g vs) (i : Nat) (v : Value) (hv : vs[i]? = some v) : w.cell? ⟨g, i, none⟩ = some v := by
 have h : w.heap[g]? = _ := h
 simp only [World.cell?, h]
 simpa using hv
theorem Row.free (h : Row T w g vs) (i : Nat) : w.frozen? ⟨g, i, none⟩ = false := by
 have h : w.heap[g]? = _ := h
 simp [World.frozen?, h]
theorem Row.block (h : Row T w g vs) (hb : w'.heap[g]? = w.heap[g]?) : Row T w' g vs := by
 show w'.heap[g]? = _
 rw [hb]
 exact h
theorem Row.alloc (h : Row T w g vs) (o : Obj) : Row T (w.alloc o) g vs := h.block (Below.heap_alloc _ _ _ h.size)
theorem Row.drew (h : Row T w g vs) : Row T w.drew g vs := h
theorem Row.drewN (h : Row T w g vs) (n : Nat) : Row T (w.drewN n) g vs := h.block rfl
theorem Row.below {B : Nat} (h : Row T w g vs) (hb : Below B w w') (hg : g < B) : Row T w' g vs := h.block (hb.block g hg)
theorem Row.set (h : Row T w g vs) (i : Nat) (v : Value) : Row T (w.setCell ⟨g, i, none⟩ v) g (vs.set i v) := by
 have h0 := heap_setCell_same w g i _ T v h
 show (w.setCell ⟨g, i, none⟩ v).heap[g]? = _
 rw [h0]
 simp
theorem Row.new (w : World) (T : TypeId) (vs : List Value) : Row T (w.alloc (.cells vs.toArray T)) w.heap.size vs := heap_alloc_new w _
theorem Row.range (h : Row T w g vs) (o n : Nat) : w.rangeAt g o ((vs.drop o).take n) := by
 intro j v hv
 have h1 : vs[o + j]? = some v := by
  rw [List.getElem?_take] at hv
  split at hv
  ·rwa [List.getElem?_drop] at hv
  ·cases hv
 exact h.cell (o + j) v h1
theorem Row.there (h : Row T w g vs) (o n : Nat) (hn : o + n ≤ vs.length) : w.there g o n := by
 intro j hj
 refine ⟨?_, h.free _⟩
 rw [h.cell (o + j) _ (List.getElem?_eq_getElem (by omega))]
 rfl
end
/-- what lies below B but for block g is as it was -/
structure But (B g : Nat) (a w : World) : Prop where
 os : w.os = a.os
 tape : w.tape = a.tape
 output : w.output = a.output
 size : a.heap.size ≤ w.heap.size
 block : ∀ i, i < B → i ≠ g → w.heap[i]? = a.heap[i]?
section
variable {B g : Nat} {a w w' : World}
theorem But.of (h : Below B a w) : But B g a w := ⟨h.os, h.tape, h.output, h.size, fun i hi _ => h.block i hi⟩
theorem But.trans (h : But B g a w) (k : But B g w w') : But B g a w' := ⟨k.os.trans h.os, k.tape.trans h.tape, k.output.trans h.output, Nat.le_trans h.size k.size, fun i hi hg => (k.block i hi hg).trans (h.block i hi hg)⟩
theorem But.below {C : Nat} (h : But B g a w) (hg : C ≤ g) (hB : C ≤ B) : Below C a w := ⟨h.os, h.tape, h.output, h.size, fun i hi => h.block i (by omega) (by omega)⟩
theorem But.self (h : But B g a w) (i : Nat) (v : Value) : But B g a (w.setCell ⟨g, i, none⟩ v) := h.trans
 ⟨rfl, rfl, rfl, by simp [World.setCell], fun j _ hj => Below.heap_setCell _ _ _ _ hj⟩
theorem But.drew (h : But B g a w) : But B g a w.drew := ⟨h.os, h.tape, h.output, h.size, h.block⟩
end
end Go.Proofs.Ytkfjhndofbmhoaa.Arr
