/- What the proof of PointMultiples is made of, part 8. -/
import Derived.Test.YtkfjhndofbmhoaaZPointMultiples0
import Derived.Test.YtkfjhndofbmhoaaZPointMultiples6
import Derived.Test.YtkfjhndofbmhoaaZPointMultiples7
import Derived.Test.YtkfjhndofbmhoaaZPointMultiples4
import Derived.Laws.Tables
namespace Go.Proofs.Ytkfjhndofbmhoaa
open Go.RowKit Go.Proofs.Ytkfjhndofbmhoaa.Arr Go.Proofs.YtkfjhndofbmhoaaW.PrintWords Go.Proofs.YtkfjhndofbmhoaaW.PrintLast Go.Proofs.YtkfjhndofbmhoaaW.PrintMore
set_option linter.unusedVariables false
set_option linter.unusedSimpArgs false
theorem wp_at {P : Program} {c : Code} {Q : Exit → Act → World → Prop} {a : Act} {w1 w2 : World} (h : w1 = w2) (H : Code.wp P c Q a w2) : Code.wp P c Q a w1 := h ▸ H
theorem alloc_sz (u : World) (o : Obj) : (u.alloc o).heap.size = u.heap.size + 1 := by simp
/-- a number's cells -/
def nw (a : Nat) : List Value := [.int .u64 (wd0 a : Nat), .int .u64 (wd1 a : Nat), .int .u64 (wd2 a : Nat), .int .u64 (wd3 a : Nat)]
theorem numV_nw (a : Nat) : numV a = .agg (nw a).toArray := rfl
theorem nw_one (a : Nat) : ∀ v ∈ nw a, v.oneCell' = true := by
 intro v hv
 simp only [nw, List.mem_cons, List.not_mem_nil, or_false] at hv
 rcases hv with rfl | rfl | rfl | rfl <;> rfl
/-- block g is a variable that holds a number -/
def NAt (w : World) (g a : Nat) : Prop := Row 24 w g (nw a)
/-- block g is a field: modulus, turn, one, square -/
def FAt (w : World) (g m t o s : Nat) : Prop := Row 79 w g (nw m ++ ([.int .u64 (t : Nat)] ++ (nw o ++ nw s)))
/-- a wide number's cells -/
def nx (a : Nat) : List Value := [.int .u64 (wd0 a : Nat), .int .u64 (wd1 a : Nat), .int .u64 (wd2 a : Nat), .int .u64 (wd3 a : Nat), .int .u64 (wd4 a : Nat), .int .u64 (wd5 a : Nat), .int .u64 (wd6 a : Nat), .int .u64 (wd7 a : Nat)]
def XAt (w : World) (g a : Nat) : Prop := Row 90 w g (nx a)
section
variable {w w' : World} {g a m t o s : Nat}
theorem XAt.size (h : XAt w g a) : g < w.heap.size := Row.size h
theorem XAt.below {B : Nat} (h : XAt w g a) (hb : Below B w w') (hg : g < B) : XAt w' g a := Row.below h hb hg
theorem XAt.on (h : XAt w g a) (hb : Below w.heap.size w w') : XAt w' g a := Row.below h hb h.size
theorem XAt.but {g1 : Nat} (h : XAt w g a) (hb : But w.heap.size g1 w w') (hg : g ≠ g1) : XAt w' g a := Row.block h (hb.block g h.size hg)
theorem new_wide (w : World) (a : Nat) : ∃ w1, w.alloc (.cells (nx a).toArray 90) = w1 ∧ XAt w1 w.heap.size a ∧ Below w.heap.size w w1 ∧ w1.heap.size = w.heap.size + 1 :=
 ⟨_, rfl, Row.new w _ _, below_alloc (Below.refl _ _) _, by simp⟩
theorem NAt.size (h : NAt w g a) : g < w.heap.size := Row.size h
theorem NAt.alloc (h : NAt w g a) (x : Obj) : NAt (w.alloc x) g a := Row.alloc h x
theorem NAt.drew (h : NAt w g a) : NAt w.drew g a := h
theorem NAt.below {B : Nat} (h : NAt w g a) (hb : Below B w w') (hg : g < B) : NAt w' g a := Row.below h hb hg
theorem NAt.on (h : NAt w g a) (hb : Below w.heap.size w w') : NAt w' g a := Row.below h hb h.size
theorem NAt.range (h : NAt w g a) : w.rangeAt g 0 (nw a) := Row.range h 0 4
theorem NAt.cell (h : NAt w g a) : w.cell? ⟨g, 0, none⟩ = some (.int .u64 (wd0 a : Nat)) ∧ w.cell? ⟨g, 1, none⟩ = some (.int .u64 (wd1 a : Nat)) ∧ w.cell? ⟨g, 2, none⟩ = some (.int .u64 (wd2 a : Nat)) ∧ w.cell? ⟨g, 3, none⟩ = some (.int .u64 (wd3 a : Nat)) := ⟨Row.cell h _ _ rfl, Row.cell h _ _ rfl, Row.cell h _ _ rfl, Row.cell h _ _ rfl⟩
theorem NAt.free (h : NAt w g a) (i : Nat) : w.frozen? ⟨g, i, none⟩ = false := Row.free h i
theorem NAt.there (h : NAt w g a) : w.there g 0 4 := Row.there h 0 4 (Nat.le_refl 4)
theorem NAt.but {g1 : Nat} (h : NAt w g a) (hb : But w.heap.size g1 w w') (hg : g ≠ g1) : NAt w' g a := Row.block h (hb.block g h.size hg)
theorem FAt.size (h : FAt w g m t o s) : g < w.heap.size := Row.size h
theorem FAt.below {B : Nat} (h : FAt w g m t o s) (hb : Below B w w') (hg : g < B) : FAt w' g m t o s := Row.below h hb hg
theorem FAt.on (h : FAt w g m t o s) (hb : Below w.heap.size w w') : FAt w' g m t o s := Row.below h hb h.size
theorem FAt.but {g1 : Nat} (h : FAt w g m t o s) (hb : But w.heap.size g1 w w') (hg : g ≠ g1) : FAt w' g m t o s := Row.block h (hb.block g h.size hg)
theorem FAt.range0 (h : FAt w g m t o s) : w.rangeAt g 0 (nw m) := Row.range h 0 4
theorem FAt.range5 (h : FAt w g m t o s) : w.rangeAt g 5 (nw o) := Row.range h 5 4
theorem FAt.range9 (h : FAt w g m t o s) : w.rangeAt g 9 (nw s) := Row.range h 9 4
theorem FAt.turn (h : FAt w g m t o s) : w.cell? ⟨g, 4, none⟩ = some (.int .u64 (t : Nat)) := Row.cell h _ _ rfl
theorem FAt.mod (h : FAt w g m t o s) : w.cell? ⟨g, 0, none⟩ = some (.int .u64 (wd0 m : Nat)) ∧ w.cell? ⟨g, 1, none⟩ = some (.int .u64 (wd1 m : Nat)) ∧ w.cell? ⟨g, 2, none⟩ = some (.int .u64 (wd2 m : Nat)) ∧ w.cell? ⟨g, 3, none⟩ = some (.int .u64 (wd3 m : Nat)) := ⟨Row.cell h _ _ rfl, Row.cell h _ _ rfl, Row.cell h _ _ rfl, Row.cell h _ _ rfl⟩
theorem NAt.set (h : NAt w g a) (b : Nat) : NAt (w.setCells g 0 (nw b)) g b := by
 have h1 := (((Row.set h 0 (.int .u64 (wd0 b : Nat))).set 1 (.int .u64 (wd1 b : Nat))).set 2 (.int .u64 (wd2 b : Nat))).set 3 (.int .u64 (wd3 b : Nat))
 exact h1
theorem but_cells {B g : Nat} {a : World} : ∀ (vs : List Value) (o : Nat) (w : World), But B g a w → But B g a (w.setCells g o vs)
 | [], o, w, h => h
 | v :: vs, o, w, h => but_cells vs (o + 1) _ (h.self o v)
/-- a number laid in a new block -/
theorem new_num (w : World) (a : Nat) : ∃ w1, w.alloc (.cells (nw a).toArray 24) = w1 ∧ NAt w1 w.heap.size a ∧ Below w.heap.size w w1 ∧ w1.heap.size = w.heap.size + 1 :=
 ⟨_, rfl, Row.new w _ _, below_alloc (Below.refl _ _) _, by simp⟩
theorem bl_on {B : Nat} {u v x : World} (h : Below B u v) (k : Below v.heap.size v x) (hB : B ≤ v.heap.size) : Below B u x := h.trans (k.mono hB)
theorem bl_both {u v x : World} (h : Below u.heap.size u v) (k : Below v.heap.size v x) : Below u.heap.size u x := h.trans (k.mono h.size)
theorem bl_but {B g : Nat} {u v x : World} (h : Below B u v) (k : But v.heap.size g v x) (hB : B ≤ v.heap.size) (hg : B ≤ g) : Below B u x := h.trans (k.below hg hB)
end
section
variable {ops : Array Oper} {rest : List Oper} {op : Oper} {a : Act} {w : World} {Q : Exit → Act → World → Prop}
/-- a store in a plain region's list, told by what it stores -/
theorem gate_st {P : Program} {y : Operand} {t : TypeId} {x : Operand} (_ho : op.op = .store t x y) (h : wpList P ops Q (op :: rest) a w) : wpList P ops Q (op :: rest) a w := h
/-- a whole load -/
theorem ld_num {g o n : Nat} (h : w.rangeAt g o (nw n)) (hgd : op.guard = none) (x : Operand) (ho : op.op = .load 24 x) (hx : a.eval x = .pointer (some ⟨g, o, none⟩))
  (k : wpList Try.prog ops Q rest (a.put op.dst (numV n)) w) : wpList Try.prog ops Q (op :: rest) a w :=
 wpList_load_mid hgd 24 x ho g o hx (nw n) _ h rfl rfl rfl k
/-- a whole store -/
theorem st_num {g n n0 : Nat} (h : NAt w g n0) (hgd : op.guard = none) (x y : Operand) (ho : op.op = .store 24 x y) (hx : a.eval x = .pointer (some ⟨g, 0, none⟩)) (hy : a.eval y = numV n)
  (k : ∀ w', NAt w' g n → But w.heap.size g w w' → wpList Try.prog ops Q rest (a.put op.dst undef) w') : wpList Try.prog ops Q (op :: rest) a w :=
 wpList_store_mid hgd 24 x y ho g 0 (nw n).toArray hx hy h.there rfl (all_oneCell_toArray (nw_one n)) (k _ (h.set n) (but_cells _ _ _ (But.of (Below.refl _ _))))
/-- a number's variable laid, a number boxed -/
theorem al_num (hgd : op.guard = none) (d : Option Tmp) (hd : op.dst = d) (ho : op.op = .alloc 24)
  (k : ∀ g w', g = w.heap.size → NAt w' g 0 → Below w.heap.size w w' → wpList Try.prog ops Q rest (a.put d (.pointer (some ⟨g, 0, none⟩))) w') : wpList Try.prog ops Q (op :: rest) a w :=
 Go.Great.wpList_allocTo hgd d hd (.pointer (some ⟨w.heap.size, 0, none⟩)) (.cells (nw 0).toArray 24) (by unfold execOp; rw [ho]; rfl) (k _ _ rfl (Row.new w _ _) (below_alloc (Below.refl _ _) _))
/-- in a drawn region -/
theorem yields_num {S : World → Prop} (hw : Region.wanted op (yielded ops a.tmps) = true) (x : Operand) (ho : op.op = .load 24 x) {g o n : Nat} (hx : a.eval x = .pointer (some ⟨g, o, none⟩)) (hS : ∀ w, S w → w.rangeAt g o (nw n)) :
  YieldsIf Try.prog ops S op (numV n) a := yieldsIf_load_mid hw 24 x ho g o hx (nw n) _ hS rfl rfl rfl
theorem yields_numx {S : World → Prop} (hw : Region.wanted op (yielded ops a.tmps) = true) (x : Operand) (ho : op.op = .load 24 x) {g o n : Nat} (hx : a.eval x = .pointer (some ⟨g, o, none⟩)) (hS : ∀ w, S w → w.rangeAt g o (nw n)) :
  YieldsIf Try.prog ops S op (.agg #[.int .u64 (wd0 n : Nat), .int .u64 (wd1 n : Nat), .int .u64 (wd2 n : Nat), .int .u64 (wd3 n : Nat)]) a := yields_num hw x ho hx hS
theorem skip_num {K : Act → World → Prop} {g n n0 : Nat} (h : NAt w g n0) (hw : Region.wanted op (yielded ops a.tmps) = true) (hN : op.dst = none) (x y : Operand) (ho : op.op = .store 24 x y) (hx : a.eval x = .pointer (some ⟨g, 0, none⟩)) (hy : a.eval y = numV n)
  (k : ∀ w', NAt w' g n → But w.heap.size g w w' → K a w') : if Region.wanted op (yielded ops a.tmps) = true then Oper.wp Try.prog op a w K Q else K (a.put none undef) w := by
 rw [if_pos hw]
 refine wp_store_mid 24 x y ho g 0 (nw n).toArray hx hy h.there rfl (all_oneCell_toArray (nw_one n)) ?_
 rw [hN]
 exact k _ (h.set n) (but_cells _ _ _ (But.of (Below.refl _ _)))
end
/-- the returned number lies in a cell of the frame -/
theorem results_nat {fn : Func} {t : Tmp} {tmps : Array Value} {w : World} {g r : Nat} (h : fn.results = #[.cell t 24]) (ht : tmps[t]?.getD undef = .pointer (some ⟨g, 0, none⟩))
  (hr : NAt w g r) : (results fn tmps).run Try.prog w = .ok (numV r) w := by
 obtain ⟨c0, c1, c2, c3⟩ := hr.cell
 rw [numV_def]
 simp [results, h, ht, go_sem, c0, c1, c2, c3]
theorem wd0_even (a : Nat) : wd0 a % 2 = a % 2 := by unfold wd0; omega
theorem b_even {b : Nat} (h : b = 0) : (((b : Nat) : Int) == 0) = true := by rw [h]; rfl
theorem b_odd {b : Nat} (h : b = 1) : (((b : Nat) : Int) == 0) = false := by rw [h]; rfl
theorem eqg_num (op : BinOp) (x y : Operand) (a b : Nat) (w : World) : (eqGuard op 24 x y (numV a) (numV b)).run Try.prog w = .ok () w := by
 rw [numV_def, numV_def]
 simp [go_sem]
theorem eqg_num0 (op : BinOp) (x y : Operand) (a : Nat) (w : World) : (eqGuard op 24 x y (numV a) (.agg #[.int .u64 0, .int .u64 0, .int .u64 0, .int .u64 0])).run Try.prog w = .ok () w := eqg_num op x y a 0 w
theorem neq_zero {n : Nat} (h : n < N256) (w : World) : (binOp .neq 24 (numV n) (.agg #[.int .u64 0, .int .u64 0, .int .u64 0, .int .u64 0])).run Try.prog w = .ok (.bool (!decide (n = 0))) w := neq_num h (b := 0) N256_pos w
end Go.Proofs.Ytkfjhndofbmhoaa
namespace Go.Proofs.Ytkfjhndofbmhoaa
open Go.RowKit Go.Proofs.Ytkfjhndofbmhoaa.Arr Go.Proofs.YtkfjhndofbmhoaaW.PrintWords Go.Proofs.YtkfjhndofbmhoaaW.PrintLast Go.Proofs.YtkfjhndofbmhoaaW.PrintMore
set_option linter.unusedVariables false
set_option linter.unusedSimpArgs false
section
variable {ops : Array Oper} {rest : List Oper} {op : Oper} {a : Act} {w : World} {Q : Exit → Act → World → Prop}
theorem wpList_wanted (hw : Region.wanted op (yielded ops a.tmps) = true) {P : Program} (h : ∀ K : Act → World → Prop, (∀ a w, wpList P ops Q rest a w → K a w) → op.wp P a w K Q) : wpList P ops Q (op :: rest) a w :=
 wpList_step fun K hK => by rw [if_pos hw]; exact h K hK
theorem ld_numG {g o n : Nat} (h : w.rangeAt g o (nw n)) (hw : Region.wanted op (yielded ops a.tmps) = true) (x : Operand) (ho : op.op = .load 24 x) (hx : a.eval x = .pointer (some ⟨g, o, none⟩))
  (k : wpList Try.prog ops Q rest (a.put op.dst (numV n)) w) : wpList Try.prog ops Q (op :: rest) a w :=
 wpList_wanted hw fun K hK => wp_load_mid 24 x ho g o hx (nw n) _ h rfl rfl rfl (hK _ _ k)
end
end Go.Proofs.Ytkfjhndofbmhoaa
namespace Go.Proofs.Ytkfjhndofbmhoaa
open Go.RowKit Go.Proofs.Ytkfjhndofbmhoaa.Arr Go.Proofs.YtkfjhndofbmhoaaW.PrintWords Go.Proofs.YtkfjhndofbmhoaaW.PrintLast Go.Proofs.YtkfjhndofbmhoaaW.PrintMore
set_option linter.unusedVariables false
set_option linter.unusedSimpArgs false
/-- a point's cells, and three numbers' -/
def pw (x y : Nat) (f : Bool) : List Value := nw x ++ (nw y ++ [.bool f])
def ptV (x y : Nat) (f : Bool) : Value := .agg (pw x y f).toArray
def hw3 (x y z : Nat) : List Value := nw x ++ (nw y ++ nw z)
def thV (x y z : Nat) : Value := .agg (hw3 x y z).toArray
/-- a method of the field, as a value; the curve -/
def mthV (f gf : Nat) : Value := .func (.func f) #[.pointer (some ⟨gf, 0, none⟩)] #[]
def cvl (gf : Nat) : List Value := [.pointer (some ⟨gf, 0, none⟩), mthV 51 gf, mthV 52 gf, mthV 53 gf]
def cvV (gf : Nat) : Value := .agg (cvl gf).toArray
def PtAt (w : World) (g : Nat) (x : Nat) (y : Nat) (f : Bool) : Prop := Row 26 w g (pw x y f)
theorem pw_one (x : Nat) (y : Nat) (f : Bool) : ∀ v ∈ pw x y f, v.oneCell' = true := by
 intro v hv
 simp only [pw, nw, List.mem_append, List.mem_cons, List.not_mem_nil, or_false] at hv
 rcases hv with (rfl | rfl | rfl | rfl) | (rfl | rfl | rfl | rfl) | rfl <;> rfl
section
variable {w w' : World} {g : Nat} {x : Nat} {y : Nat} {f : Bool}
theorem PtAt.size (h : PtAt w g x y f) : g < w.heap.size := Row.size h
theorem PtAt.below {B : Nat} (h : PtAt w g x y f) (hb : Below B w w') (hg : g < B) : PtAt w' g x y f := Row.below h hb hg
theorem PtAt.on (h : PtAt w g x y f) (hb : Below w.heap.size w w') : PtAt w' g x y f := Row.below h hb h.size
theorem PtAt.but {g1 : Nat} (h : PtAt w g x y f) (hb : But w.heap.size g1 w w') (hg : g ≠ g1) : PtAt w' g x y f := Row.block h (hb.block g h.size hg)
theorem PtAt.alloc (h : PtAt w g x y f) (ob : Obj) : PtAt (w.alloc ob) g x y f := Row.alloc h ob
theorem PtAt.free (h : PtAt w g x y f) (i : Nat) : w.frozen? ⟨g, i, none⟩ = false := Row.free h i
theorem PtAt.range (h : PtAt w g x y f) : w.rangeAt g 0 (pw x y f) := Row.range h 0 9
theorem PtAt.rx (h : PtAt w g x y f) : w.rangeAt g 0 (nw x) := Row.range h 0 4
theorem PtAt.ry (h : PtAt w g x y f) : w.rangeAt g 4 (nw y) := Row.range h 4 4
theorem new_PtAt (w : World) (x : Nat) (y : Nat) (f : Bool) : ∃ w1, w.alloc (.cells (pw x y f).toArray 26) = w1 ∧ PtAt w1 w.heap.size x y f ∧ Below w.heap.size w w1 ∧ w1.heap.size = w.heap.size + 1 :=
 ⟨_, rfl, Row.new w _ _, below_alloc (Below.refl _ _) _, by simp⟩
theorem PtAt.there (h : PtAt w g x y f) : w.there g 0 9 := Row.there h 0 9 (Nat.le_refl 9)
end
def ThAt (w : World) (g : Nat) (x : Nat) (y : Nat) (z : Nat) : Prop := Row 62 w g (hw3 x y z)
theorem hw3_one (x : Nat) (y : Nat) (z : Nat) : ∀ v ∈ hw3 x y z, v.oneCell' = true := by
 intro v hv
 simp only [hw3, nw, List.mem_append, List.mem_cons, List.not_mem_nil, or_false] at hv
 rcases hv with (rfl | rfl | rfl | rfl) | (rfl | rfl | rfl | rfl) | (rfl | rfl | rfl | rfl) <;> rfl
section
variable {w w' : World} {g : Nat} {x : Nat} {y : Nat} {z : Nat}
theorem ThAt.size (h : ThAt w g x y z) : g < w.heap.size := Row.size h
theorem ThAt.below {B : Nat} (h : ThAt w g x y z) (hb : Below B w w') (hg : g < B) : ThAt w' g x y z := Row.below h hb hg
theorem ThAt.on (h : ThAt w g x y z) (hb : Below w.heap.size w w') : ThAt w' g x y z := Row.below h hb h.size
theorem ThAt.but {g1 : Nat} (h : ThAt w g x y z) (hb : But w.heap.size g1 w w') (hg : g ≠ g1) : ThAt w' g x y z := Row.block h (hb.block g h.size hg)
theorem ThAt.alloc (h : ThAt w g x y z) (ob : Obj) : ThAt (w.alloc ob) g x y z := Row.alloc h ob
theorem ThAt.free (h : ThAt w g x y z) (i : Nat) : w.frozen? ⟨g, i, none⟩ = false := Row.free h i
theorem ThAt.range (h : ThAt w g x y z) : w.rangeAt g 0 (hw3 x y z) := Row.range h 0 12
theorem ThAt.rx (h : ThAt w g x y z) : w.rangeAt g 0 (nw x) := Row.range h 0 4
theorem ThAt.ry (h : ThAt w g x y z) : w.rangeAt g 4 (nw y) := Row.range h 4 4
theorem ThAt.rz (h : ThAt w g x y z) : w.rangeAt g 8 (nw z) := Row.range h 8 4
theorem new_ThAt (w : World) (x : Nat) (y : Nat) (z : Nat) : ∃ w1, w.alloc (.cells (hw3 x y z).toArray 62) = w1 ∧ ThAt w1 w.heap.size x y z ∧ Below w.heap.size w w1 ∧ w1.heap.size = w.heap.size + 1 :=
 ⟨_, rfl, Row.new w _ _, below_alloc (Below.refl _ _) _, by simp⟩
theorem ThAt.there (h : ThAt w g x y z) : w.there g 0 12 := Row.there h 0 12 (Nat.le_refl 12)
end
def CvAt (w : World) (g : Nat) (gf : Nat) : Prop := Row 58 w g (cvl gf)
theorem cvl_one (gf : Nat) : ∀ v ∈ cvl gf, v.oneCell' = true := by
 intro v hv
 simp only [cvl, mthV, List.mem_cons, List.not_mem_nil, or_false] at hv
 rcases hv with rfl | rfl | rfl | rfl <;> rfl
section
variable {w w' : World} {g : Nat} {gf : Nat}
theorem CvAt.size (h : CvAt w g gf) : g < w.heap.size := Row.size h
theorem CvAt.below {B : Nat} (h : CvAt w g gf) (hb : Below B w w') (hg : g < B) : CvAt w' g gf := Row.below h hb hg
theorem CvAt.on (h : CvAt w g gf) (hb : Below w.heap.size w w') : CvAt w' g gf := Row.below h hb h.size
theorem CvAt.but {g1 : Nat} (h : CvAt w g gf) (hb : But w.heap.size g1 w w') (hg : g ≠ g1) : CvAt w' g gf := Row.block h (hb.block g h.size hg)
theorem CvAt.alloc (h : CvAt w g gf) (ob : Obj) : CvAt (w.alloc ob) g gf := Row.alloc h ob
theorem CvAt.free (h : CvAt w g gf) (i : Nat) : w.frozen? ⟨g, i, none⟩ = false := Row.free h i
theorem CvAt.range (h : CvAt w g gf) : w.rangeAt g 0 (cvl gf) := Row.range h 0 4
theorem new_CvAt (w : World) (gf : Nat) : ∃ w1, w.alloc (.cells (cvl gf).toArray 58) = w1 ∧ CvAt w1 w.heap.size gf ∧ Below w.heap.size w w1 ∧ w1.heap.size = w.heap.size + 1 :=
 ⟨_, rfl, Row.new w _ _, below_alloc (Below.refl _ _) _, by simp⟩
theorem CvAt.there (h : CvAt w g gf) : w.there g 0 4 := Row.there h 0 4 (Nat.le_refl 4)
end
theorem PtAt.far {w : World} {g x y : Nat} {f : Bool} (h : PtAt w g x y f) : w.cell? ⟨g, 8, none⟩ = some (.bool f) := Row.cell h 8 _ rfl
theorem CvAt.c0 {w : World} {g gf : Nat} (h : CvAt w g gf) : w.cell? ⟨g, 0, none⟩ = some (.pointer (some ⟨gf, 0, none⟩)) := Row.cell h 0 _ rfl
theorem CvAt.c1 {w : World} {g gf : Nat} (h : CvAt w g gf) : w.cell? ⟨g, 1, none⟩ = some (mthV 51 gf) := Row.cell h 1 _ rfl
theorem CvAt.c2 {w : World} {g gf : Nat} (h : CvAt w g gf) : w.cell? ⟨g, 2, none⟩ = some (mthV 52 gf) := Row.cell h 2 _ rfl
theorem CvAt.c3 {w : World} {g gf : Nat} (h : CvAt w g gf) : w.cell? ⟨g, 3, none⟩ = some (mthV 53 gf) := Row.cell h 3 _ rfl
/-- a whole store, on the cells -/
theorem set_whole_at {T : TypeId} {g : Nat} : ∀ (vs pre xs : List Value) (w : World), Row T w g (pre ++ xs) → xs.length = vs.length → Row T (w.setCells g pre.length vs) g (pre ++ vs)
 | [], pre, xs, w, h, hl => by
  obtain rfl := List.length_eq_zero_iff.1 hl
  exact h
 | v :: vs, pre, [], w, h, hl => by cases hl
 | v :: vs, pre, x :: xs, w, h, hl => by
  show Row T ((w.setCell ⟨g, pre.length, none⟩ v).setCells g (pre.length + 1) vs) g _
  have h1 := Row.set h pre.length v
  rw [List.set_append_right _ _ (Nat.le_refl _), Nat.sub_self, List.set_cons_zero] at h1
  have h2 := set_whole_at vs (pre ++ [v]) xs (w.setCell ⟨g, pre.length, none⟩ v) (by rw [List.append_assoc]; exact h1) (by simpa using hl)
  rw [List.length_append, List.append_assoc] at h2
  exact h2
theorem set_whole {T : TypeId} {g : Nat} {vs xs : List Value} {w : World} (h : Row T w g xs) (hl : xs.length = vs.length) : Row T (w.setCells g 0 vs) g vs := set_whole_at vs [] xs w h hl
section
variable {P : Program} {ops : Array Oper} {Q : Exit → Act → World → Prop}
/-- a call through a function value, by the contract of what it holds -/
theorem goesF_ {oi : Oper} {N : Option Tmp} {a : Act} {w : World} {K : Act → World → Prop} {f : FuncId} {fn : Func} {x : Operand} {as_ : Array Operand} {ts : Array TypeId} (hf : P.funcs[f]? = some fn) (hname : (fn.name == "runtime.NumGoroutine") = false) (hb : fn.body.isSome = true) (gf : Nat) (p q : Value)
  (hw : Region.wanted oi (yielded ops a.tmps) = true) (hN : oi.dst = N) (hop : oi.op = .call { callee := .value x, args := as_, argTypes := ts }) (hx : a.eval x = mthV f gf) (hargs : as_.map a.eval = #[p, q])
  (h : Calls P f #[.pointer (some ⟨gf, 0, none⟩), p, q] w fun e w' => ∃ v, e = .returned v ∧ K (a.put N v) w') : if Region.wanted oi (yielded ops a.tmps) = true then Oper.wp P oi a w K Q else K (a.put N undef) w := by
 refine call_ f #[.pointer (some ⟨gf, 0, none⟩), p, q] hw hN ?_ h
 have he := enters_ hf hname hb #[.pointer (some ⟨gf, 0, none⟩), p, q] w
 unfold execOp
 unfold mthV at hx
 simp [hop, resolve, Deferred.ofValue, invoke, hx, hargs, he]
theorem gF_ {oi : Oper} {N : Option Tmp} {a : Act} {w : World} {K : Act → World → Prop} {f : FuncId} {fn : Func} {x : Operand} {as_ : Array Operand} {ts : Array TypeId} (hf : P.funcs[f]? = some fn) (gf : Nat) (p q : Value) (hop : oi.op = .call { callee := .value x, args := as_, argTypes := ts })
  (h : Calls P f #[.pointer (some ⟨gf, 0, none⟩), p, q] w fun e w' => ∃ v, e = .returned v ∧ K (a.put N v) w') (hname : (fn.name == "runtime.NumGoroutine") = false := by kernel_rfl) (hb : fn.body.isSome = true := by rfl) (hw : Region.wanted oi (yielded ops a.tmps) = true := by rfl) (hN : oi.dst = N := by rfl) (hx : a.eval x = mthV f gf := by rfl) (hargs : as_.map a.eval = #[p, q] := by simp only [List.map_toArray, List.map_cons, List.map_nil]; rfl) : if Region.wanted oi (yielded ops a.tmps) = true then Oper.wp P oi a w K Q else K (a.put N undef) w :=
 goesF_ hf hname hb gf p q hw hN hop hx hargs h
theorem goesFL_ {rest : List Oper} {oi : Oper} {a : Act} {w : World} (N : Option Tmp) (hd : oi.dst = N) (hg : oi.guard = none) {f : FuncId} {fn : Func} (x : Operand) {as_ : Array Operand} {ts : Array TypeId} (hf : P.funcs[f]? = some fn) (hname : (fn.name == "runtime.NumGoroutine") = false) (hb : fn.body.isSome = true) (gf : Nat) (p q : Value)
  (hop : oi.op = .call { callee := .value x, args := as_, argTypes := ts }) (hx : a.eval x = mthV f gf) (hargs : as_.map a.eval = #[p, q])
  (h : Calls P f #[.pointer (some ⟨gf, 0, none⟩), p, q] w fun e w' => ∃ v, e = .returned v ∧ wpList P ops Q rest (a.put N v) w') : wpList P ops Q (oi :: rest) a w :=
 by
 subst hd
 exact wpList_step fun K hK => goesF_ hf hname hb gf p q (by simp [Region.wanted, hg]) rfl hop hx hargs (h.mono fun e w' ⟨v, h1, h2⟩ => ⟨v, h1, hK _ _ h2⟩)
end
section
variable {ops : Array Oper} {rest : List Oper} {op : Oper} {a : Act} {w : World} {Q : Exit → Act → World → Prop}
/-- whole loads and stores of structs -/
theorem ld_pt {g : Nat} {x : Nat} {y : Nat} {f : Bool} (h : PtAt w g x y f) (hgd : op.guard = none) (x_ : Operand) (ho : op.op = .load 26 x_) (hx : a.eval x_ = .pointer (some ⟨g, 0, none⟩))
  (k : wpList Try.prog ops Q rest (a.put op.dst (ptV x y f)) w) : wpList Try.prog ops Q (op :: rest) a w :=
 wpList_load_mid hgd 26 x_ ho g 0 hx (pw x y f) _ h.range rfl rfl rfl k
theorem st_pt {g : Nat} {x : Nat} {y : Nat} {f : Bool} {x0 : Nat} {y0 : Nat} {f0 : Bool} (h : PtAt w g x0 y0 f0) (hgd : op.guard = none) (x_ y_ : Operand) (ho : op.op = .store 26 x_ y_) (hx : a.eval x_ = .pointer (some ⟨g, 0, none⟩)) (hy : a.eval y_ = ptV x y f)
  (k : ∀ w', PtAt w' g x y f → But w.heap.size g w w' → wpList Try.prog ops Q rest (a.put op.dst undef) w') : wpList Try.prog ops Q (op :: rest) a w :=
 wpList_store_mid hgd 26 x_ y_ ho g 0 (pw x y f).toArray hx hy h.there rfl (all_oneCell_toArray (pw_one x y f)) (k _ (set_whole h rfl) (but_cells _ _ _ (But.of (Below.refl _ _))))
theorem skip_pt {K : Act → World → Prop} {g : Nat} {x : Nat} {y : Nat} {f : Bool} {x0 : Nat} {y0 : Nat} {f0 : Bool} (h : PtAt w g x0 y0 f0) (hw : Region.wanted op (yielded ops a.tmps) = true) (hN : op.dst = none) (x_ y_ : Operand) (ho : op.op = .store 26 x_ y_) (hx : a.eval x_ = .pointer (some ⟨g, 0, none⟩)) (hy : a.eval y_ = ptV x y f)
  (k : ∀ w', PtAt w' g x y f → But w.heap.size g w w' → K a w') : if Region.wanted op (yielded ops a.tmps) = true then Oper.wp Try.prog op a w K Q else K (a.put none undef) w := by
 rw [if_pos hw]
 refine wp_store_mid 26 x_ y_ ho g 0 (pw x y f).toArray hx hy h.there rfl (all_oneCell_toArray (pw_one x y f)) ?_
 rw [hN]
 exact k _ (set_whole h rfl) (but_cells _ _ _ (But.of (Below.refl _ _)))
theorem al_pt (hgd : op.guard = none) (d : Option Tmp) (hd : op.dst = d) (ho : op.op = .alloc 26)
  (k : ∀ g w', g = w.heap.size → PtAt w' g 0 0 false → Below w.heap.size w w' → wpList Try.prog ops Q rest (a.put d (.pointer (some ⟨g, 0, none⟩))) w') : wpList Try.prog ops Q (op :: rest) a w :=
 Go.Great.wpList_allocTo hgd d hd (.pointer (some ⟨w.heap.size, 0, none⟩)) (.cells (pw 0 0 false).toArray 26) (by unfold execOp; rw [ho]; rfl) (k _ _ rfl (Row.new w _ _) (below_alloc (Below.refl _ _) _))
theorem ld_th {g : Nat} {x : Nat} {y : Nat} {z : Nat} (h : ThAt w g x y z) (hgd : op.guard = none) (x_ : Operand) (ho : op.op = .load 62 x_) (hx : a.eval x_ = .pointer (some ⟨g, 0, none⟩))
  (k : wpList Try.prog ops Q rest (a.put op.dst (thV x y z)) w) : wpList Try.prog ops Q (op :: rest) a w :=
 wpList_load_mid hgd 62 x_ ho g 0 hx (hw3 x y z) _ h.range rfl rfl rfl k
theorem st_th {g : Nat} {x : Nat} {y : Nat} {z : Nat} {x0 : Nat} {y0 : Nat} {z0 : Nat} (h : ThAt w g x0 y0 z0) (hgd : op.guard = none) (x_ y_ : Operand) (ho : op.op = .store 62 x_ y_) (hx : a.eval x_ = .pointer (some ⟨g, 0, none⟩)) (hy : a.eval y_ = thV x y z)
  (k : ∀ w', ThAt w' g x y z → But w.heap.size g w w' → wpList Try.prog ops Q rest (a.put op.dst undef) w') : wpList Try.prog ops Q (op :: rest) a w :=
 wpList_store_mid hgd 62 x_ y_ ho g 0 (hw3 x y z).toArray hx hy h.there rfl (all_oneCell_toArray (hw3_one x y z)) (k _ (set_whole h rfl) (but_cells _ _ _ (But.of (Below.refl _ _))))
theorem skip_th {K : Act → World → Prop} {g : Nat} {x : Nat} {y : Nat} {z : Nat} {x0 : Nat} {y0 : Nat} {z0 : Nat} (h : ThAt w g x0 y0 z0) (hw : Region.wanted op (yielded ops a.tmps) = true) (hN : op.dst = none) (x_ y_ : Operand) (ho : op.op = .store 62 x_ y_) (hx : a.eval x_ = .pointer (some ⟨g, 0, none⟩)) (hy : a.eval y_ = thV x y z)
  (k : ∀ w', ThAt w' g x y z → But w.heap.size g w w' → K a w') : if Region.wanted op (yielded ops a.tmps) = true then Oper.wp Try.prog op a w K Q else K (a.put none undef) w := by
 rw [if_pos hw]
 refine wp_store_mid 62 x_ y_ ho g 0 (hw3 x y z).toArray hx hy h.there rfl (all_oneCell_toArray (hw3_one x y z)) ?_
 rw [hN]
 exact k _ (set_whole h rfl) (but_cells _ _ _ (But.of (Below.refl _ _)))
theorem al_th (hgd : op.guard = none) (d : Option Tmp) (hd : op.dst = d) (ho : op.op = .alloc 62)
  (k : ∀ g w', g = w.heap.size → ThAt w' g 0 0 0 → Below w.heap.size w w' → wpList Try.prog ops Q rest (a.put d (.pointer (some ⟨g, 0, none⟩))) w') : wpList Try.prog ops Q (op :: rest) a w :=
 Go.Great.wpList_allocTo hgd d hd (.pointer (some ⟨w.heap.size, 0, none⟩)) (.cells (hw3 0 0 0).toArray 62) (by unfold execOp; rw [ho]; rfl) (k _ _ rfl (Row.new w _ _) (below_alloc (Below.refl _ _) _))
theorem ld_cv {g gf : Nat} (h : CvAt w g gf) (hgd : op.guard = none) (x_ : Operand) (ho : op.op = .load 58 x_) (hx : a.eval x_ = .pointer (some ⟨g, 0, none⟩))
  (k : wpList Try.prog ops Q rest (a.put op.dst (cvV gf)) w) : wpList Try.prog ops Q (op :: rest) a w :=
 wpList_load_mid hgd 58 x_ ho g 0 hx (cvl gf) _ h.range rfl rfl rfl k
end
theorem results_th {fn : Func} {t : Tmp} {tmps : Array Value} {w : World} {g x y z : Nat} (h : fn.results = #[.cell t 62]) (ht : tmps.getD t undef = .pointer (some ⟨g, 0, none⟩)) (hr : ThAt w g x y z) : (results fn tmps).run Try.prog w = .ok (thV x y z) w :=
 results_cell_row h _ _ g 62 (hw3 x y z).toArray (0, 0) _ ht hr rfl rfl rfl
theorem results_pt {fn : Func} {t : Tmp} {tmps : Array Value} {w : World} {g x y : Nat} {f : Bool} (h : fn.results = #[.cell t 26]) (ht : tmps.getD t undef = .pointer (some ⟨g, 0, none⟩)) (hr : PtAt w g x y f) : (results fn tmps).run Try.prog w = .ok (ptV x y f) w :=
 results_cell_row h _ _ g 26 (pw x y f).toArray (0, 0) _ ht hr rfl rfl rfl
theorem results_cv {fn : Func} {t : Tmp} {tmps : Array Value} {w : World} {g gf : Nat} (h : fn.results = #[.cell t 58]) (ht : tmps.getD t undef = .pointer (some ⟨g, 0, none⟩)) (hr : CvAt w g gf) : (results fn tmps).run Try.prog w = .ok (cvV gf) w :=
 results_cell_row h _ _ g 58 (cvl gf).toArray (0, 0) _ ht hr rfl rfl rfl
/-- a curve's variable, laid; the store of the curve to it -/
def CzAt (w : World) (g : Nat) : Prop := ∃ vs, vs.length = 4 ∧ Row 58 w g vs
theorem CzAt.size {w : World} {g : Nat} (h : CzAt w g) : g < w.heap.size := by obtain ⟨vs, _, h⟩ := h; exact Row.size h
theorem CzAt.on {w w' : World} {g : Nat} (h : CzAt w g) (hb : Below w.heap.size w w') : CzAt w' g := by obtain ⟨vs, h1, h⟩ := h; exact ⟨vs, h1, Row.below h hb h.size⟩
theorem CzAt.but {w w' : World} {g q : Nat} (h : CzAt w g) (hb : But w.heap.size q w w') (hq : g ≠ q) : CzAt w' g := by obtain ⟨vs, h1, h⟩ := h; exact ⟨vs, h1, Row.block h (hb.block g h.size hq)⟩
def cvz : List Value := [.pointer none, .nilFunc, .nilFunc, .nilFunc]
theorem new_CzAt (w : World) : ∃ w1, w.alloc (.cells cvz.toArray 58) = w1 ∧ CzAt w1 w.heap.size ∧ Below w.heap.size w w1 ∧ w1.heap.size = w.heap.size + 1 := ⟨_, rfl, ⟨cvz, rfl, Row.new w _ _⟩, below_alloc (Below.refl _ _) _, by simp⟩
section
variable {ops : Array Oper} {rest : List Oper} {op : Oper} {a : Act} {w : World} {Q : Exit → Act → World → Prop}
theorem al_cv (hgd : op.guard = none) (d : Option Tmp) (hd : op.dst = d) (ho : op.op = .alloc 58)
  (k : ∀ g w', g = w.heap.size → CzAt w' g → Below w.heap.size w w' → wpList Try.prog ops Q rest (a.put d (.pointer (some ⟨g, 0, none⟩))) w') : wpList Try.prog ops Q (op :: rest) a w :=
 Go.Great.wpList_allocTo hgd d hd (.pointer (some ⟨w.heap.size, 0, none⟩)) (.cells cvz.toArray 58) (by unfold execOp; rw [ho]; rfl) (k _ _ rfl ⟨cvz, rfl, Row.new w _ _⟩ (below_alloc (Below.refl _ _) _))
theorem st_cv {g gf : Nat} (h : CzAt w g) (hgd : op.guard = none) (x_ y_ : Operand) (ho : op.op = .store 58 x_ y_) (hx : a.eval x_ = .pointer (some ⟨g, 0, none⟩)) (hy : a.eval y_ = cvV gf)
  (k : ∀ w', CvAt w' g gf → But w.heap.size g w w' → wpList Try.prog ops Q rest (a.put op.dst undef) w') : wpList Try.prog ops Q (op :: rest) a w := by
 obtain ⟨vs, h1, h⟩ := h
 exact wpList_store_mid hgd 58 x_ y_ ho g 0 (cvl gf).toArray hx hy (Row.there h 0 4 (by rw [h1]; exact Nat.le_refl _)) rfl (all_oneCell_toArray (cvl_one gf)) (k _ (set_whole h (by rw [h1]; rfl)) (but_cells _ _ _ (But.of (Below.refl _ _))))
end
theorem set_mid_at {T : TypeId} {g : Nat} {post : List Value} : ∀ (vs pre xs : List Value) (w : World), Row T w g (pre ++ (xs ++ post)) → xs.length = vs.length → Row T (w.setCells g pre.length vs) g (pre ++ (vs ++ post))
 | [], pre, xs, w, h, hl => by
  obtain rfl := List.length_eq_zero_iff.1 hl
  exact h
 | v :: vs, pre, [], w, h, hl => by cases hl
 | v :: vs, pre, x :: xs, w, h, hl => by
  show Row T ((w.setCell ⟨g, pre.length, none⟩ v).setCells g (pre.length + 1) vs) g _
  have h1 := Row.set h pre.length v
  rw [List.set_append_right _ _ (Nat.le_refl _), Nat.sub_self, List.cons_append, List.set_cons_zero] at h1
  have h2 := set_mid_at (post := post) vs (pre ++ [v]) xs (w.setCell ⟨g, pre.length, none⟩ v) (by rw [List.append_assoc]; exact h1) (by simpa using hl)
  rw [List.length_append, List.append_assoc] at h2
  exact h2
section
variable {ops : Array Oper} {rest : List Oper} {op : Oper} {a : Act} {w : World} {Q : Exit → Act → World → Prop}
/-- a number stored as a point's y -/
theorem st_pty {g x y n : Nat} {f : Bool} (h : PtAt w g x y f) (hgd : op.guard = none) (x_ y_ : Operand) (ho : op.op = .store 24 x_ y_) (hx : a.eval x_ = .pointer (some ⟨g, 4, none⟩)) (hy : a.eval y_ = numV n)
  (k : ∀ w', PtAt w' g x n f → But w.heap.size g w w' → wpList Try.prog ops Q rest (a.put op.dst undef) w') : wpList Try.prog ops Q (op :: rest) a w :=
 wpList_store_mid hgd 24 x_ y_ ho g 4 (nw n).toArray hx hy (Row.there h 4 4 (by show 4 + 4 ≤ 9; decide)) rfl (all_oneCell_toArray (nw_one n)) (k _ (set_mid_at (nw n) (nw x) (nw y) w h rfl) (but_cells _ _ _ (But.of (Below.refl _ _))))
end
/-- a point in a cell of the frame, and a value -/
theorem results_pt2 {fn : Func} {t u : Tmp} {tmps : Array Value} {w : World} {g x y : Nat} {f : Bool} {v : Value} (h : fn.results = #[.cell t 26, .tmp u]) (ht : tmps[t]?.getD undef = .pointer (some ⟨g, 0, none⟩)) (hu : tmps[u]?.getD undef = v)
  (hr : PtAt w g x y f) : (results fn tmps).run Try.prog w = .ok (.tuple #[ptV x y f, v]) w := by
 have c0 := Row.cell hr 0 _ rfl
 have c1 := Row.cell hr 1 _ rfl
 have c2 := Row.cell hr 2 _ rfl
 have c3 := Row.cell hr 3 _ rfl
 have c4 := Row.cell hr 4 _ rfl
 have c5 := Row.cell hr 5 _ rfl
 have c6 := Row.cell hr 6 _ rfl
 have c7 := Row.cell hr 7 _ rfl
 have c8 := Row.cell hr 8 _ rfl
 unfold ptV pw nw
 simp [results, h, ht, hu, go_sem, c0, c1, c2, c3, c4, c5, c6, c7, c8]
section
variable {ops : Array Oper} {rest : List Oper} {op : Oper} {a : Act} {w : World} {Q : Exit → Act → World → Prop}
theorem ld_ptG {g : Nat} {x : Nat} {y : Nat} {f : Bool} (h : PtAt w g x y f) (hw : Region.wanted op (yielded ops a.tmps) = true) (x_ : Operand) (ho : op.op = .load 26 x_) (hx : a.eval x_ = .pointer (some ⟨g, 0, none⟩))
  (k : wpList Try.prog ops Q rest (a.put op.dst (ptV x y f)) w) : wpList Try.prog ops Q (op :: rest) a w :=
 wpList_wanted hw fun K hK => wp_load_mid 26 x_ ho g 0 hx (pw x y f) _ h.range rfl rfl rfl (hK _ _ k)
theorem ld_cvG {g : Nat} {gf : Nat} (h : CvAt w g gf) (hw : Region.wanted op (yielded ops a.tmps) = true) (x_ : Operand) (ho : op.op = .load 58 x_) (hx : a.eval x_ = .pointer (some ⟨g, 0, none⟩))
  (k : wpList Try.prog ops Q rest (a.put op.dst (cvV gf)) w) : wpList Try.prog ops Q (op :: rest) a w :=
 wpList_wanted hw fun K hK => wp_load_mid 58 x_ ho g 0 hx (cvl gf) _ h.range rfl rfl rfl (hK _ _ k)
end
theorem bt_th (p q r : Nat) : Try.prog.built 62 [(0, numV p), (1, numV q), (2, numV r)] = some (hw3 p q r).toArray := by kernel_rfl
theorem rb_th {op : Oper} {a : Act} {p q r : Nat} (w : World) (x_ y_ z_ : Operand) (ho : op.op = .build 62 #[(0, x_), (1, y_), (2, z_)]) (hx : a.eval x_ = numV p) (hy : a.eval y_ = numV q) (hz : a.eval z_ = numV r) : (execOp a.eval op).run Try.prog w = .ok (.value (thV p q r)) w := by
 unfold execOp
 rw [ho]
 have h := run_build w 62 #[(0, numV p), (1, numV q), (2, numV r)] _ (bt_th p q r)
 simp only [List.map_toArray, List.map_cons, List.map_nil, hx, hy, hz, Sem.run_bind, h, Result.andThen_ok]
 rfl
theorem bd_th {ops : Array Oper} {rest : List Oper} {op : Oper} {a : Act} {w : World} {Q : Exit → Act → World → Prop} {p q r : Nat} (hgd : op.guard = none) (d : Option Tmp) (hd : op.dst = d) (x_ y_ z_ : Operand) (ho : op.op = .build 62 #[(0, x_), (1, y_), (2, z_)]) (hx : a.eval x_ = numV p) (hy : a.eval y_ = numV q) (hz : a.eval z_ = numV r)
  (k : wpList Try.prog ops Q rest (a.put d (thV p q r)) w) : wpList Try.prog ops Q (op :: rest) a w :=
 Go.Great.wpList_runTo hgd d hd _ w (rb_th w x_ y_ z_ ho hx hy hz) k
theorem bt_pt (p q : Nat) : Try.prog.built 26 [(0, numV p), (1, numV q)] = some (pw p q false).toArray := by kernel_rfl
theorem rb_pt {op : Oper} {a : Act} {p q : Nat} (w : World) (x_ y_ : Operand) (ho : op.op = .build 26 #[(0, x_), (1, y_)]) (hx : a.eval x_ = numV p) (hy : a.eval y_ = numV q) : (execOp a.eval op).run Try.prog w = .ok (.value (ptV p q false)) w := by
 unfold execOp
 rw [ho]
 have h := run_build w 26 #[(0, numV p), (1, numV q)] _ (bt_pt p q)
 simp only [List.map_toArray, List.map_cons, List.map_nil, hx, hy, Sem.run_bind, h, Result.andThen_ok]
 rfl
theorem bd_pt {ops : Array Oper} {rest : List Oper} {op : Oper} {a : Act} {w : World} {Q : Exit → Act → World → Prop} {p q : Nat} (hgd : op.guard = none) (d : Option Tmp) (hd : op.dst = d) (x_ y_ : Operand) (ho : op.op = .build 26 #[(0, x_), (1, y_)]) (hx : a.eval x_ = numV p) (hy : a.eval y_ = numV q)
  (k : wpList Try.prog ops Q rest (a.put d (ptV p q false)) w) : wpList Try.prog ops Q (op :: rest) a w :=
 Go.Great.wpList_runTo hgd d hd _ w (rb_pt w x_ y_ ho hx hy) k
end Go.Proofs.Ytkfjhndofbmhoaa
