/- The field's ground: a number in a block of memory; whole loads and stores; the field's struct. -/
import Derived.Test.YtojjbcjndgekmaaNum
import Derived.Test.YtojjbcjndgekmaaHf
import Derived.Test.YtojjbcjndgekmaaWLast
import Derived.Test.YtojjbcjndgekmaaWMore
namespace Go.Proofs.Ytojjbcjndgekmaa
open Go.RowKit Go.Proofs.Ytojjbcjndgekmaa.Arr Go.Proofs.YtojjbcjndgekmaaW.PrintWords Go.Proofs.YtojjbcjndgekmaaW.PrintLast Go.Proofs.YtojjbcjndgekmaaW.PrintMore
set_option linter.unusedVariables false
set_option linter.unusedSimpArgs false
theorem wp_at {P : Program} {c : Code} {Q : Exit → Act → World → Prop} {a : Act} {w1 w2 : World} (h : w1 = w2) (H : Code.wp P c Q a w2) : Code.wp P c Q a w1 := h ▸ H
theorem alloc_sz (u : World) (o : Obj) : (u.alloc o).heap.size = u.heap.size + 1 := by simp
/-- a number's cells -/
def nw (a : Nat) : List Value := [.int .u64 (wd0 a : Nat), .int .u64 (wd1 a : Nat), .int .u64 (wd2 a : Nat), .int .u64 (wd3 a : Nat)]
theorem numV_nw (a : Nat) : numV a = .agg (nw a).toArray := rfl
theorem nw_one (a : Nat) : ∀ v ∈ nw a, v.oneCell' = true := by
  intro v hv
  simp only [nw, List.mem_cons, List.not_mem_nil, or_false] at hv
  rcases hv with rfl | rfl | rfl | rfl <;> rfl
/-- block g is a variable that holds a number -/
def NAt (w : World) (g a : Nat) : Prop := Row 24 w g (nw a)
/-- block g is a field: modulus, turn, one, square -/
def FAt (w : World) (g m t o s : Nat) : Prop := Row 51 w g (nw m ++ ([.int .u64 (t : Nat)] ++ (nw o ++ nw s)))
/-- a wide number's cells -/
def nx (a : Nat) : List Value := [.int .u64 (wd0 a : Nat), .int .u64 (wd1 a : Nat), .int .u64 (wd2 a : Nat), .int .u64 (wd3 a : Nat), .int .u64 (wd4 a : Nat), .int .u64 (wd5 a : Nat), .int .u64 (wd6 a : Nat), .int .u64 (wd7 a : Nat)]
theorem wideV_nx (a : Nat) : wideV a = .agg (nx a).toArray := rfl
def XAt (w : World) (g a : Nat) : Prop := Row 40 w g (nx a)
section
variable {w w' : World} {g a m t o s : Nat}
theorem XAt.size (h : XAt w g a) : g < w.heap.size := Row.size h
theorem XAt.below {B : Nat} (h : XAt w g a) (hb : Below B w w') (hg : g < B) : XAt w' g a := Row.below h hb hg
theorem XAt.on (h : XAt w g a) (hb : Below w.heap.size w w') : XAt w' g a := Row.below h hb h.size
theorem XAt.but {g1 : Nat} (h : XAt w g a) (hb : But w.heap.size g1 w w') (hg : g ≠ g1) : XAt w' g a := Row.block h (hb.block g h.size hg)
theorem new_wide (w : World) (a : Nat) : ∃ w1, w.alloc (.cells (nx a).toArray 40) = w1 ∧ XAt w1 w.heap.size a ∧ Below w.heap.size w w1 ∧ w1.heap.size = w.heap.size + 1 :=
  ⟨_, rfl, Row.new w _ _, below_alloc (Below.refl _ _) _, by simp⟩
theorem NAt.size (h : NAt w g a) : g < w.heap.size := Row.size h
theorem NAt.alloc (h : NAt w g a) (x : Obj) : NAt (w.alloc x) g a := Row.alloc h x
theorem NAt.drew (h : NAt w g a) : NAt w.drew g a := h
theorem NAt.below {B : Nat} (h : NAt w g a) (hb : Below B w w') (hg : g < B) : NAt w' g a := Row.below h hb hg
theorem NAt.on (h : NAt w g a) (hb : Below w.heap.size w w') : NAt w' g a := Row.below h hb h.size
theorem NAt.range (h : NAt w g a) : w.rangeAt g 0 (nw a) := Row.range h 0 4
theorem NAt.cell (h : NAt w g a) : w.cell? ⟨g, 0, none⟩ = some (.int .u64 (wd0 a : Nat)) ∧ w.cell? ⟨g, 1, none⟩ = some (.int .u64 (wd1 a : Nat)) ∧ w.cell? ⟨g, 2, none⟩ = some (.int .u64 (wd2 a : Nat)) ∧ w.cell? ⟨g, 3, none⟩ = some (.int .u64 (wd3 a : Nat)) := ⟨Row.cell h _ _ rfl, Row.cell h _ _ rfl, Row.cell h _ _ rfl, Row.cell h _ _ rfl⟩
theorem NAt.free (h : NAt w g a) (i : Nat) : w.frozen? ⟨g, i, none⟩ = false := Row.free h i
theorem NAt.there (h : NAt w g a) : w.there g 0 4 := Row.there h 0 4 (Nat.le_refl 4)
theorem NAt.but {g1 : Nat} (h : NAt w g a) (hb : But w.heap.size g1 w w') (hg : g ≠ g1) : NAt w' g a := Row.block h (hb.block g h.size hg)
theorem NAt.other (h : NAt w g a) {p : Addr} (hp : g ≠ p.block) (u : Value) : NAt (w.setCell p u) g a := Row.other h hp u
theorem FAt.size (h : FAt w g m t o s) : g < w.heap.size := Row.size h
theorem FAt.below {B : Nat} (h : FAt w g m t o s) (hb : Below B w w') (hg : g < B) : FAt w' g m t o s := Row.below h hb hg
theorem FAt.on (h : FAt w g m t o s) (hb : Below w.heap.size w w') : FAt w' g m t o s := Row.below h hb h.size
theorem FAt.but {g1 : Nat} (h : FAt w g m t o s) (hb : But w.heap.size g1 w w') (hg : g ≠ g1) : FAt w' g m t o s := Row.block h (hb.block g h.size hg)
theorem FAt.range0 (h : FAt w g m t o s) : w.rangeAt g 0 (nw m) := Row.range h 0 4
theorem FAt.range5 (h : FAt w g m t o s) : w.rangeAt g 5 (nw o) := Row.range h 5 4
theorem FAt.range9 (h : FAt w g m t o s) : w.rangeAt g 9 (nw s) := Row.range h 9 4
theorem FAt.turn (h : FAt w g m t o s) : w.cell? ⟨g, 4, none⟩ = some (.int .u64 (t : Nat)) := Row.cell h _ _ rfl
theorem FAt.mod (h : FAt w g m t o s) : w.cell? ⟨g, 0, none⟩ = some (.int .u64 (wd0 m : Nat)) ∧ w.cell? ⟨g, 1, none⟩ = some (.int .u64 (wd1 m : Nat)) ∧ w.cell? ⟨g, 2, none⟩ = some (.int .u64 (wd2 m : Nat)) ∧ w.cell? ⟨g, 3, none⟩ = some (.int .u64 (wd3 m : Nat)) := ⟨Row.cell h _ _ rfl, Row.cell h _ _ rfl, Row.cell h _ _ rfl, Row.cell h _ _ rfl⟩
theorem NAt.set (h : NAt w g a) (b : Nat) : NAt (w.setCells g 0 (nw b)) g b := by
  have h1 := (((Row.set h 0 (.int .u64 (wd0 b : Nat))).set 1 (.int .u64 (wd1 b : Nat))).set 2 (.int .u64 (wd2 b : Nat))).set 3 (.int .u64 (wd3 b : Nat))
  exact h1
theorem but_cells {B g : Nat} {a : World} : ∀ (vs : List Value) (o : Nat) (w : World), But B g a w → But B g a (w.setCells g o vs)
  | [], o, w, h => h
  | v :: vs, o, w, h => but_cells vs (o + 1) _ (h.self o v)
/-- a number laid in a new block -/
theorem new_num (w : World) (a : Nat) : ∃ w1, w.alloc (.cells (nw a).toArray 24) = w1 ∧ NAt w1 w.heap.size a ∧ Below w.heap.size w w1 ∧ w1.heap.size = w.heap.size + 1 :=
  ⟨_, rfl, Row.new w _ _, below_alloc (Below.refl _ _) _, by simp⟩
theorem new_zero (w : World) : ∃ w1, w.alloc (.cells #[.int .u64 0, .int .u64 0, .int .u64 0, .int .u64 0] 24) = w1 ∧ NAt w1 w.heap.size 0 ∧ Below w.heap.size w w1 ∧ w1.heap.size = w.heap.size + 1 := new_num w 0
theorem bl_on {B : Nat} {u v x : World} (h : Below B u v) (k : Below v.heap.size v x) (hB : B ≤ v.heap.size) : Below B u x := h.trans (k.mono hB)
theorem bl_both {u v x : World} (h : Below u.heap.size u v) (k : Below v.heap.size v x) : Below u.heap.size u x := h.trans (k.mono h.size)
theorem bl_but {B g : Nat} {u v x : World} (h : Below B u v) (k : But v.heap.size g v x) (hB : B ≤ v.heap.size) (hg : B ≤ g) : Below B u x := h.trans (k.below hg hB)
end
section
variable {ops : Array Oper} {rest : List Oper} {op : Oper} {a : Act} {w : World} {Q : Exit → Act → World → Prop}
/-- a store in a plain region's list, told by what it stores -/
theorem gate_st {P : Program} {y : Operand} {t : TypeId} {x : Operand} (_ho : op.op = .store t x y) (h : wpList P ops Q (op :: rest) a w) : wpList P ops Q (op :: rest) a w := h
/-- a whole load -/
theorem ld_num {g o n : Nat} (h : w.rangeAt g o (nw n)) (hgd : op.guard = none) (x : Operand) (ho : op.op = .load 24 x) (hx : a.eval x = .pointer (some ⟨g, o, none⟩))
    (k : wpList Try.prog ops Q rest (a.put op.dst (numV n)) w) : wpList Try.prog ops Q (op :: rest) a w :=
  wpList_load_mid hgd 24 x ho g o hx (nw n) _ h rfl rfl rfl k
/-- a whole store -/
theorem st_num {g n n0 : Nat} (h : NAt w g n0) (hgd : op.guard = none) (x y : Operand) (ho : op.op = .store 24 x y) (hx : a.eval x = .pointer (some ⟨g, 0, none⟩)) (hy : a.eval y = numV n)
    (k : ∀ w', NAt w' g n → But w.heap.size g w w' → wpList Try.prog ops Q rest (a.put op.dst undef) w') : wpList Try.prog ops Q (op :: rest) a w :=
  wpList_store_mid hgd 24 x y ho g 0 (nw n).toArray hx hy h.there rfl (all_oneCell_toArray (nw_one n)) (k _ (h.set n) (but_cells _ _ _ (But.of (Below.refl _ _))))
/-- a number's variable laid, a number boxed -/
theorem al_num (hgd : op.guard = none) (d : Option Tmp) (hd : op.dst = d) (ho : op.op = .alloc 24)
    (k : ∀ g w', g = w.heap.size → NAt w' g 0 → Below w.heap.size w w' → wpList Try.prog ops Q rest (a.put d (.pointer (some ⟨g, 0, none⟩))) w') : wpList Try.prog ops Q (op :: rest) a w :=
  Go.Great.wpList_allocTo hgd d hd (.pointer (some ⟨w.heap.size, 0, none⟩)) (.cells (nw 0).toArray 24) (by unfold execOp; rw [ho]; rfl) (k _ _ rfl (Row.new w _ _) (below_alloc (Below.refl _ _) _))
theorem bx_num {n : Nat} (hgd : op.guard = none) (d : Option Tmp) (hd : op.dst = d) (x : Operand) (ho : op.op = .box 24 x) (hx : a.eval x = numV n)
    (k : ∀ g w', g = w.heap.size → NAt w' g n → Below w.heap.size w w' → wpList Try.prog ops Q rest (a.put d (.pointer (some ⟨g, 0, none⟩))) w') : wpList Try.prog ops Q (op :: rest) a w :=
  Go.Great.wpList_allocTo hgd d hd (.pointer (some ⟨w.heap.size, 0, none⟩)) (.cells (nw n).toArray 24) (by unfold execOp; rw [ho]; simp only [hx]; rfl) (k _ _ rfl (Row.new w _ _) (below_alloc (Below.refl _ _) _))
/-- in a drawn region -/
theorem yields_num {S : World → Prop} (hw : Region.wanted op (yielded ops a.tmps) = true) (x : Operand) (ho : op.op = .load 24 x) {g o n : Nat} (hx : a.eval x = .pointer (some ⟨g, o, none⟩)) (hS : ∀ w, S w → w.rangeAt g o (nw n)) :
    YieldsIf Try.prog ops S op (numV n) a := yieldsIf_load_mid hw 24 x ho g o hx (nw n) _ hS rfl rfl rfl
theorem yields_numx {S : World → Prop} (hw : Region.wanted op (yielded ops a.tmps) = true) (x : Operand) (ho : op.op = .load 24 x) {g o n : Nat} (hx : a.eval x = .pointer (some ⟨g, o, none⟩)) (hS : ∀ w, S w → w.rangeAt g o (nw n)) :
    YieldsIf Try.prog ops S op (.agg #[.int .u64 (wd0 n : Nat), .int .u64 (wd1 n : Nat), .int .u64 (wd2 n : Nat), .int .u64 (wd3 n : Nat)]) a := yields_num hw x ho hx hS
theorem skip_num {K : Act → World → Prop} {g n n0 : Nat} (h : NAt w g n0) (hw : Region.wanted op (yielded ops a.tmps) = true) (hN : op.dst = none) (x y : Operand) (ho : op.op = .store 24 x y) (hx : a.eval x = .pointer (some ⟨g, 0, none⟩)) (hy : a.eval y = numV n)
    (k : ∀ w', NAt w' g n → But w.heap.size g w w' → K a w') : if Region.wanted op (yielded ops a.tmps) = true then Oper.wp Try.prog op a w K Q else K (a.put none undef) w := by
  rw [if_pos hw]
  refine wp_store_mid 24 x y ho g 0 (nw n).toArray hx hy h.there rfl (all_oneCell_toArray (nw_one n)) ?_
  rw [hN]
  exact k _ (h.set n) (but_cells _ _ _ (But.of (Below.refl _ _)))
end
/-- the returned number lies in a cell of the frame -/
theorem results_nat {fn : Func} {t : Tmp} {tmps : Array Value} {w : World} {g r : Nat} (h : fn.results = #[.cell t 24]) (ht : tmps[t]?.getD undef = .pointer (some ⟨g, 0, none⟩))
    (hr : NAt w g r) : (results fn tmps).run Try.prog w = .ok (numV r) w := by
  obtain ⟨c0, c1, c2, c3⟩ := hr.cell
  rw [numV_def]
  simp [results, h, ht, go_sem, c0, c1, c2, c3]
end Go.Proofs.Ytojjbcjndgekmaa
