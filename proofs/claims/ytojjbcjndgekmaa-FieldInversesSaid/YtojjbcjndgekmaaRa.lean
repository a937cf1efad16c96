/- A block of memory that begins with a list of cells: what is read of it, what a store makes of it; and the sixteen parts of a number. -/
import Derived.Test.YtojjbcjndgekmaaNum
namespace Go.Proofs.Ytojjbcjndgekmaa
open Go.RowKit
set_option linter.unusedVariables false
set_option linter.unusedSimpArgs false

/-- Block g holds cells of type e, not frozen, and begins with xs. -/
def Rw (w : World) (e : TypeId) (g : Nat) (xs : List Value) : Prop := ∃ cur : Array Value, w.heap[g]? = some (.cells cur e (0, 0)) ∧ cur.toList.take xs.length = xs
theorem Rw.size {w : World} {e : TypeId} {g : Nat} {xs : List Value} (h : Rw w e g xs) : g < w.heap.size := by
  obtain ⟨cur, hc, _⟩ := h
  exact (Array.getElem?_eq_some_iff.1 hc).1
theorem Rw.cell {w : World} {e : TypeId} {g : Nat} {xs : List Value} (h : Rw w e g xs) {j : Nat} {v : Value} (hv : xs[j]? = some v) : w.cell? ⟨g, j, none⟩ = some v := by
  obtain ⟨cur, hc, ht⟩ := h
  have hj : j < xs.length := (List.getElem?_eq_some_iff.1 hv).1
  rw [← ht, List.getElem?_take_of_lt hj] at hv
  simp [World.cell?, hc]
  simpa using hv
theorem Rw.free {w : World} {e : TypeId} {g : Nat} {xs : List Value} (h : Rw w e g xs) (j : Nat) : w.frozen? ⟨g, j, none⟩ = false := by
  obtain ⟨cur, hc, ht⟩ := h
  simp [World.frozen?, hc]
theorem Rw.block {w w' : World} {e : TypeId} {g : Nat} {xs : List Value} (h : Rw w e g xs) (hb : w'.heap[g]? = w.heap[g]?) : Rw w' e g xs := by
  obtain ⟨cur, hc, ht⟩ := h
  exact ⟨cur, by rw [hb]; exact hc, ht⟩
theorem Rw.alloc {w : World} {e : TypeId} {g : Nat} {xs : List Value} (h : Rw w e g xs) (o : Obj) : Rw (w.alloc o) e g xs :=
  h.block (Below.heap_alloc _ _ _ h.size)
theorem Rw.drew {w : World} {e : TypeId} {g : Nat} {xs : List Value} (h : Rw w e g xs) : Rw w.drew e g xs := h
theorem Rw.drewN {w : World} {e : TypeId} {g : Nat} {xs : List Value} (h : Rw w e g xs) (n : Nat) : Rw (w.drewN n) e g xs := h
theorem Rw.below {w w' : World} {B : Nat} {e : TypeId} {g : Nat} {xs : List Value} (h : Rw w e g xs) (hb : Below B w w') (hg : g < B) : Rw w' e g xs := h.block (hb.block g hg)
theorem Rw.set_other {w : World} {e : TypeId} {g : Nat} {xs : List Value} (h : Rw w e g xs) {a : Addr} (ha : g ≠ a.block) (u : Value) : Rw (w.setCell a u) e g xs := h.block (Below.heap_setCell _ _ _ _ ha)
theorem Rw.set {w : World} {e : TypeId} {g : Nat} {xs : List Value} (h : Rw w e g xs) (j : Nat) (u : Value) : Rw (w.setCell ⟨g, j, none⟩ u) e g (xs.set j u) := by
  obtain ⟨cur, hc, ht⟩ := h
  refine ⟨cur.setIfInBounds j u, ?_, ?_⟩
  · simp [World.setCell, Array.getElem?_modify, hc]
  · rw [List.length_set, Array.toList_setIfInBounds, List.take_set, ht]
theorem Rw.of_owns {w : World} {base : Nat} {e : TypeId} {v : Value} {n : Nat} {xs : List Value} (h : w.ownsRow base e 1 v n xs) (hn : n ≠ 0) :
    ∃ g cap, v = .slice (some ⟨g, 0, none⟩) n cap ∧ base ≤ g ∧ n ≤ cap ∧ Rw w e g xs := by
  obtain ⟨hl, h | ⟨g, cap, cur, hv, hg, hh, hc, hm, hs, ht⟩⟩ := h
  · exact absurd h.2 hn
  · exact ⟨g, cap, hv, hg, hc, cur, hh, by rw [hl]; exact ht⟩

theorem Rw.new {w : World} {e : TypeId} {xs : Array Value} {n : Nat} (hn : n = w.heap.size) : Rw (w.alloc (.cells xs e)) e n xs.toList := by
  subst hn
  refine ⟨xs, ?_, by rw [Array.length_toList]; exact List.take_of_length_le (by simp)⟩
  show (w.heap.push _)[w.heap.size]? = _
  rw [Array.getElem?_push, if_pos rfl]
theorem Rw.four {w : World} {e : TypeId} {g : Nat} {x0 x1 x2 x3 : Value} (h : Rw w e g [x0, x1, x2, x3]) :
    w.cell? ⟨g, 0, none⟩ = some x0 ∧ w.cell? ⟨g, 1, none⟩ = some x1 ∧ w.cell? ⟨g, 2, none⟩ = some x2 ∧ w.cell? ⟨g, 3, none⟩ = some x3 := ⟨h.cell rfl, h.cell rfl, h.cell rfl, h.cell rfl⟩

/-- part j of a number: 16 bits -/
def pt (a j : Nat) : Nat := a / 65536 ^ j % 65536
theorem pt_lt (a j : Nat) : pt a j < 65536 := Nat.mod_lt _ (by omega)
/-- a function's first m values, as cells -/
def fnL (f : Nat → Nat) (m : Nat) : List Value := (List.range m).map fun j => .int .i64 (f j : Nat)
theorem fnL_length (f : Nat → Nat) (m : Nat) : (fnL f m).length = m := by simp [fnL]
theorem fnL_succ (f : Nat → Nat) (m : Nat) : fnL f (m + 1) = fnL f m ++ [.int .i64 (f m : Nat)] := by simp [fnL, List.range_succ]
theorem fnL_get (f : Nat → Nat) (m j : Nat) (h : j < m) : (fnL f m)[j]? = some (.int .i64 (f j : Nat)) := by simp [fnL, h]
theorem fnL_congr {f g : Nat → Nat} {m : Nat} (h : ∀ j, j < m → f j = g j) : fnL f m = fnL g m := by
  unfold fnL
  apply List.map_congr_left
  intro j hj
  rw [h j (List.mem_range.1 hj)]
theorem fnL_set (f : Nat → Nat) (m k v : Nat) : (fnL f m).set k (.int .i64 (v : Nat)) = fnL (fun j => if j = k then v else f j) m := by
  apply List.ext_getElem?
  intro j
  rw [List.getElem?_set]
  by_cases hj : j < m
  · rw [fnL_get _ _ _ hj, fnL_length]
    by_cases hk : k = j
    · subst hk; rw [fnL_get _ _ _ hj]; simp [hj]
    · rw [if_neg hk, fnL_get _ _ _ hj, if_neg (fun e => hk e.symm)]
  · have h1 : ∀ f : Nat → Nat, (fnL f m)[j]? = none := fun f => List.getElem?_eq_none (by rw [fnL_length]; omega)
    rw [h1, h1, fnL_length]
    split
    · rw [if_neg (by omega)]
    · rfl
/-- f below k, g from k on -/
def mix (f g : Nat → Nat) (k : Nat) : Nat → Nat := fun j => if j < k then f j else g j
theorem mix_zero (f g : Nat → Nat) (m : Nat) : fnL (mix f g 0) m = fnL g m := fnL_congr fun j _ => by simp [mix]
theorem mix_full (f g : Nat → Nat) (m k : Nat) (h : m ≤ k) : fnL (mix f g k) m = fnL f m := fnL_congr fun j hj => by unfold mix; rw [if_pos (by omega)]
theorem mix_here (f g : Nat → Nat) (k : Nat) : mix f g k k = g k := by unfold mix; rw [if_neg (by omega)]
theorem mix_set (f g : Nat → Nat) (m k : Nat) : (fnL (mix f g k) m).set k (.int .i64 (f k : Nat)) = fnL (mix f g (k + 1)) m := by
  rw [fnL_set]
  apply fnL_congr
  intro j _
  unfold mix
  by_cases h : j = k
  · subst h; rw [if_pos rfl, if_pos (by omega)]
  · rw [if_neg h]
    by_cases h2 : j < k
    · rw [if_pos h2, if_pos (by omega)]
    · rw [if_neg h2, if_neg (by omega)]
theorem mix_down (f g : Nat → Nat) (m k : Nat) : (fnL (mix f g (k + 1)) m).set k (.int .i64 (g k : Nat)) = fnL (mix f g k) m := by
  rw [fnL_set]
  apply fnL_congr
  intro j _
  unfold mix
  by_cases h : j = k
  · subst h; rw [if_pos rfl, if_neg (by omega)]
  · rw [if_neg h]
    by_cases h2 : j < k
    · rw [if_pos h2, if_pos (by omega)]
    · rw [if_neg h2, if_neg (by omega)]
theorem mix_below (f g : Nat → Nat) (j k : Nat) (h : j < k) : mix f g k j = f j := by unfold mix; rw [if_pos h]
/-- the first m parts, as cells -/
abbrev ptL (a m : Nat) : List Value := fnL (pt a) m
theorem ptL_length (a m : Nat) : (ptL a m).length = m := fnL_length _ _
theorem ptL_succ (a m : Nat) : ptL a (m + 1) = ptL a m ++ [.int .i64 (pt a m : Nat)] := fnL_succ _ _
theorem ptL_get (a m j : Nat) (h : j < m) : (ptL a m)[j]? = some (.int .i64 (pt a j : Nat)) := fnL_get _ _ _ h
end Go.Proofs.Ytojjbcjndgekmaa
