/- What the proof of NonceLists is made of, part 37. -/
import Derived.Test.YtojlhmmmiebbmaaZNonceLists12
import Derived.Test.YtojlhmmmiebbmaaZNonceLists20
namespace Go.Proofs.Ytojlhmmmiebbmaa.PNonceLists
open Go.RowKit Go.Proofs.Ytojlhmmmiebbmaa Go.Proofs.YtojlhmmmiebbmaaW.PrintWords Go.Proofs.YtojlhmmmiebbmaaW.PrintLast Go.Proofs.YtojlhmmmiebbmaaW.PrintMore Go.Proofs.Ytojlhmmmiebbmaa.Sha Go.Proofs.Ytojlhmmmiebbmaa.Arr
attribute [local go_sem] max2_int min2_int max_two min_two max_three min_three max_four min_four
set_option linter.unusedVariables false
set_option linter.unusedSimpArgs false
/-- block g is a digest's variable -/
def DAt (w : World) (g : Nat) (l : List Nat) : Prop := Arr .u8 26 w g (cN l)
/-- a digest, as a value -/
def digV (l : List Nat) : Value := .agg (ints .u8 (cN l)).toArray
section
variable {w w' : World} {g : Nat} {l : List Nat}
theorem DAt.size (h : DAt w g l) : g < w.heap.size := Arr.size h
theorem DAt.on (h : DAt w g l) (hb : Below w.heap.size w w') : DAt w' g l := Arr.below h hb h.size
theorem DAt.but {q : Nat} (h : DAt w g l) (hb : But w.heap.size q w w') (hq : g ≠ q) : DAt w' g l := Arr.block h (hb.block g h.size hq)
theorem DAt.range (h : DAt w g l) : w.rangeAt g 0 (ints .u8 (cN l)) := Arr.range h
theorem DAt.grown {q : Option Nat} (h : DAt w g l) (hg : w.grownBy w' q) (hq : q ≠ some g) : DAt w' g l := Arr.block h (hg.block g h.size (fun e => hq e.symm))
theorem DAt.row (h : DAt w g l) (hl : l.length ≤ 1000) : Kd.C (Kd.int .u8) w (some ⟨g, 0, none⟩) (cN l).length (cN l) :=
  Kd.C_of_reads (enc := Value.int .u8) (d := (0 : Int)) (h1 := fun _ => rfl) (arr_rd h (by rw [cN_length]; unfold maxLen; omega))
end
/-- v is a slice of bytes of one's own, at or above base -/
def BL (w : World) (base : Nat) (v : Value) (l : List Nat) : Prop := w.ownsRow base 5 1 v (cN l).length (nums .u8 (cN l))
section
variable {w w' : World} {base : Nat} {v : Value} {l : List Nat}
theorem BL.nil (w : World) (base : Nat) : BL w base (.slice none 0 0) [] := ⟨rfl, .inl ⟨rfl, rfl⟩⟩
theorem BL.own (h : BL w base v l) : ∀ q, v.ownBlock = some q → base ≤ q ∧ q < w.heap.size := World.ownsRow.lt h
theorem BL.move (h : BL w base v l) (hb : ∀ q, v.ownBlock = some q → w'.heap[q]? = w.heap[q]?) : BL w' base v l := by
  obtain ⟨h1, h2⟩ := h
  refine ⟨h1, ?_⟩
  rcases h2 with h2 | ⟨g, cap, cur, rfl, hg, h3, r⟩
  · exact .inl h2
  · exact .inr ⟨g, cap, cur, rfl, hg, (hb g rfl).trans h3, r⟩
theorem BL.on (h : BL w base v l) (hb : Below w.heap.size w w') : BL w' base v l := h.move fun q hq => hb.block q (h.own q hq).2
theorem BL.grown {q : Option Nat} (h : BL w base v l) (hg : w.grownBy w' q) (hq : ∀ k, v.ownBlock = some k → q ≠ some k) : BL w' base v l := h.move fun k hk => hg.block k (h.own k hk).2 (fun e => hq k hk e.symm)
theorem BL.but {g : Nat} (h : BL w base v l) (hb : But w.heap.size g w w') (hg : v.ownBlock ≠ some g) : BL w' base v l := h.move fun q hq => hb.block q (h.own q hq).2 (fun e => hg (by rw [hq, e]))
theorem BL.row {A : Option Addr} {m c : Nat} (h : BL w base (.slice A m c) l) : Kd.C (Kd.int .u8) w A (cN l).length (cN l) := own_Cq h
theorem BL.len {A : Option Addr} {m c : Nat} (h : BL w base (.slice A m c) l) : m = (cN l).length := by
  rcases h.2 with ⟨h1, h2⟩ | ⟨g, cap, cur, hv, _⟩
  · injection h1 with e1 e2 e3
    omega
  · injection hv
theorem BL.slice (h : BL w base v l) : ∃ A c, v = .slice A (cN l).length c := own_slice h
theorem BL.made (w : World) : BL (w.alloc (.cells #[] 5)) w.heap.size (.slice (some ⟨w.heap.size, 0, none⟩) 0 0) [] := ⟨rfl, .inr ⟨_, 0, #[], rfl, Nat.le_refl _, heap_alloc_new w _, Nat.le_refl _, by decide, rfl, rfl⟩⟩
/-- a row of bytes laid whole -/
theorem BL.laid (w : World) (l : List Nat) (hl : l.length ≤ 1000) : BL (w.alloc (.cells (ints .u8 (cN l)).toArray 5)) w.heap.size (.slice (some ⟨w.heap.size, 0, none⟩) l.length l.length) l := by
  refine ⟨by simp [nums, cN_length], .inr ⟨_, l.length, (ints .u8 (cN l)).toArray, by rw [cN_length], Nat.le_refl _, heap_alloc_new w _, by rw [cN_length]; exact Nat.le_refl _, by unfold maxLen; omega, by simp [ints_length, cN_length], ?_⟩⟩
  rw [List.toList_toArray, List.take_of_length_le (by rw [ints_length]; omega)]
  rfl
end
section
variable {ops : Array Oper} {rest : List Oper} {op : Oper} {a : Act} {w : World} {Q : Exit → Act → World → Prop}
/-- append(v, x...) -/
theorem ap_bytes {base m c : Nat} {A : Option Addr} {v : Value} {l y : List Nat} (hO : BL w base v l) (hC : Kd.C (Kd.int .u8) w A (cN y).length (cN y)) (hm : m = (cN y).length) (hb : base ≤ w.heap.size) (hl : l.length + y.length ≤ 140737488355328) (hgd : op.guard = none) (s x : Operand) (ho : op.op = .call { callee := .builtin .append, args := #[s, x], argTypes := #[40, 40] })
    (hs : a.eval s = v) (hx : a.eval x = .slice A m c)
    (k : ∀ A' m' c' w', m' = (l ++ y).length → BL w' base (.slice A' m' c') (l ++ y) → w.grownBy w' v.ownBlock → ((Value.slice A' m' c').ownBlock = v.ownBlock ∨ ∃ b, (Value.slice A' m' c').ownBlock = some b ∧ w.heap.size ≤ b) → wpList Try.prog ops Q rest (a.put op.dst (.slice A' m' c')) w') : wpList Try.prog ops Q (op :: rest) a w := by
  subst hm
  refine print_append_row (w0 := w) base hgd s x 40 5 .u8 1 ho rfl rfl (by omega) v (cN l) (cN y) A (cN y).length c hs hx hO (reads_of .u8 hC) (Below.refl _ _) hb (by rw [cN_length, cN_length]; omega) ?_
  intro v1 w1 h1 _ h2 h3
  rw [← cN_append] at h1
  obtain ⟨A', c', e⟩ := own_slice h1
  subst e
  exact k A' _ c' w1 (by rw [cN_length]) h1 h2 h3
/-- the same at a step of a region that draws its order -/
theorem sp_bytes {Kc : Act → World → Prop} {base m c : Nat} {A : Option Addr} {v : Value} {l y : List Nat} (hw : Region.wanted op (yielded ops a.tmps) = true) (hO : BL w base v l) (hC : Kd.C (Kd.int .u8) w A (cN y).length (cN y)) (hm : m = (cN y).length) (hb : base ≤ w.heap.size) (hl : l.length + y.length ≤ 140737488355328) (s x : Operand) (ho : op.op = .call { callee := .builtin .append, args := #[s, x], argTypes := #[40, 40] })
    (hs : a.eval s = v) (hx : a.eval x = .slice A m c)
    (k : ∀ A' m' c' w', m' = (l ++ y).length → BL w' base (.slice A' m' c') (l ++ y) → w.grownBy w' v.ownBlock → ((Value.slice A' m' c').ownBlock = v.ownBlock ∨ ∃ b, (Value.slice A' m' c').ownBlock = some b ∧ w.heap.size ≤ b) → Kc (a.put op.dst (.slice A' m' c')) w') : if Region.wanted op (yielded ops a.tmps) = true then Oper.wp Try.prog op a w Kc Q else Kc (a.put op.dst undef) w := by
  subst hm
  refine Kd.R_append_rows_step (Kd.int .u8) (w0 := w) base hw s x 40 5 (.int .u8 0) 1 ho rfl rfl rfl (by decide) (by omega) v (cN l) (cN y) A (cN y).length c (fun _ => True) (fun _ => False) hs hx (Kd.R_of_own hO (fun _ _ => trivial)) hC (fun _ _ h => h) (fun _ h => h.elim) (fun _ _ => trivial) (Below.refl _ _) hb (by rw [cN_length, cN_length]; omega) ?_
  intro v1 w1 h0 _ h2 h3
  have h1 := Kd.own_of_R h0
  have h4 : BL w1 base v1 (l ++ y) := by
    unfold BL
    rw [cN_append]
    exact h1
  obtain ⟨A', c', e⟩ := own_slice h4
  subst e
  exact k A' _ c' w1 (by rw [cN_length]) h4 h2 h3
/-- a digest's variable laid -/
theorem al_dig (hgd : op.guard = none) (d : Option Tmp) (hd : op.dst = d) (ho : op.op = .alloc 26)
    (k : ∀ g w', g = w.heap.size → DAt w' g z32 → Below w.heap.size w w' → wpList Try.prog ops Q rest (a.put d (.pointer (some ⟨g, 0, none⟩))) w') : wpList Try.prog ops Q (op :: rest) a w :=
  Go.Great.wpList_allocTo hgd d hd (.pointer (some ⟨w.heap.size, 0, none⟩)) (.cells (ints .u8 (cN z32)).toArray 26) (by unfold execOp; rw [ho]; rfl) (k _ _ rfl (Arr.new w _ _ _) (below_alloc (Below.refl _ _) _))
/-- a whole load, a whole store -/
theorem ld_dig {g : Nat} {l : List Nat} (h : DAt w g l) (hl : l.length = 32) (hgd : op.guard = none) (x : Operand) (ho : op.op = .load 26 x) (hx : a.eval x = .pointer (some ⟨g, 0, none⟩))
    (k : wpList Try.prog ops Q rest (a.put op.dst (digV l)) w) : wpList Try.prog ops Q (op :: rest) a w :=
  wpList_load_mid hgd 26 x ho g 0 hx (ints .u8 (cN l)) _ h.range rfl rfl (by rw [ints_length, cN_length, hl]; rfl) k
theorem st_dig {g : Nat} {l l0 : List Nat} (h : DAt w g l0) (h0 : l0.length = 32) (hl : l.length = 32) (hgd : op.guard = none) (x y : Operand) (ho : op.op = .store 26 x y) (hx : a.eval x = .pointer (some ⟨g, 0, none⟩)) (hy : a.eval y = digV l)
    (k : ∀ w', DAt w' g l → But w.heap.size g w w' → wpList Try.prog ops Q rest (a.put op.dst undef) w') : wpList Try.prog ops Q (op :: rest) a w := by
  refine wpList_store_mid hgd 26 x y ho g 0 (ints .u8 (cN l)).toArray hx hy (Arr.there h (by rw [List.size_toArray, ints_length, cN_length, cN_length, h0, hl])) (by rw [List.size_toArray, ints_length, cN_length, hl]; rfl) (all_oneCell_toArray (ints_one _ _)) (k _ ?_ ?_)
  · rw [List.toList_toArray]
    exact Arr.setCells h (by rw [cN_length, cN_length, h0, hl])
  · rw [List.toList_toArray]
    exact but_cells _ _ _ (But.of (Below.refl _ _))
end
/-- bytes in memory -/
structure Byt (w : World) (A : Option Addr) (l : List Nat) : Prop where
  c : Kd.C (Kd.int .u8) w A (cN l).length (cN l)
  b : Bs l
  n : l.length ≤ 1000
theorem Byt.on {w w' : World} {A : Option Addr} {l : List Nat} (h : Byt w A l) (hb : Below w.heap.size w w') : Byt w' A l := ⟨Kd.C_below h.c hb, h.b, h.n⟩
theorem Byt.nil (w : World) : Byt w none [] := ⟨⟨rfl, by decide, fun h => absurd h (by decide)⟩, bs_of_mem (by simp), Nat.zero_le _⟩
theorem BL.byt {w : World} {base m c : Nat} {A : Option Addr} {l : List Nat} (h : BL w base (.slice A m c) l) (hb : Bs l) (hn : l.length ≤ 1000) : Byt w A l := ⟨h.row, hb, hn⟩
theorem grown_below {w w' : World} {B : Nat} {q : Option Nat} (hg : w.grownBy w' q) (hq : ∀ k, q = some k → B ≤ k) (hB : B ≤ w.heap.size) : Below B w w' :=
  ⟨hg.os, hg.tape, hg.output, hg.size, fun i hi => hg.block i (by omega) (fun e => by have := hq i e.symm; omega)⟩
end Go.Proofs.Ytojlhmmmiebbmaa.PNonceLists
