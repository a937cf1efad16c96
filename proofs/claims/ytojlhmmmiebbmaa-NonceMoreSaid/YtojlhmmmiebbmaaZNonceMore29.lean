/- What the proof of NonceMore is made of, part 29. -/
import Derived.Test.YtojlhmmmiebbmaaZNonceMore12
import Derived.Test.YtojlhmmmiebbmaaZNonceMore14
namespace Go.Proofs.Ytojlhmmmiebbmaa.PNonceLists
open Go.RowKit Go.Proofs.Ytojlhmmmiebbmaa Go.Proofs.YtojlhmmmiebbmaaW.PrintWords Go.Proofs.YtojlhmmmiebbmaaW.PrintLast Go.Proofs.YtojlhmmmiebbmaaW.PrintMore Go.Proofs.Ytojlhmmmiebbmaa.Sha Go.Proofs.Ytojlhmmmiebbmaa.Arr
attribute [local go_sem] max2_int min2_int max_two min_two max_three min_three max_four min_four
set_option linter.unusedVariables false
set_option linter.unusedSimpArgs false
/-- block g is a digest's variable -/
def DAt (w : World) (g : Nat) (l : List Nat) : Prop := Arr .u8 26 w g (cN l)
/-- a digest, as a value -/
def digV (l : List Nat) : Value := .agg (ints .u8 (cN l)).toArray
section
variable {w w' : World} {g : Nat} {l : List Nat}
theorem DAt.size (h : DAt w g l) : g < w.heap.size := Arr.size h
theorem DAt.on (h : DAt w g l) (hb : Below w.heap.size w w') : DAt w' g l := Arr.below h hb h.size
theorem DAt.but {q : Nat} (h : DAt w g l) (hb : But w.heap.size q w w') (hq : g ≠ q) : DAt w' g l := Arr.block h (hb.block g h.size hq)
theorem DAt.range (h : DAt w g l) : w.rangeAt g 0 (ints .u8 (cN l)) := Arr.range h
theorem DAt.grown {q : Option Nat} (h : DAt w g l) (hg : w.grownBy w' q) (hq : q ≠ some g) : DAt w' g l := Arr.block h (hg.block g h.size (fun e => hq e.symm))
theorem DAt.row (h : DAt w g l) (hl : l.length ≤ 1000) : Kd.C (Kd.int .u8) w (some ⟨g, 0, none⟩) (cN l).length (cN l) :=
  Kd.C_of_reads (enc := Value.int .u8) (d := (0 : Int)) (h1 := fun _ => rfl) (arr_rd h (by rw [cN_length]; unfold maxLen; omega))
end
/-- v is a slice of bytes of one's own, at or above base -/
def BL (w : World) (base : Nat) (v : Value) (l : List Nat) : Prop := w.ownsRow base 5 1 v (cN l).length (nums .u8 (cN l))
section
variable {w w' : World} {base : Nat} {v : Value} {l : List Nat}
theorem BL.nil (w : World) (base : Nat) : BL w base (.slice none 0 0) [] := ⟨rfl, .inl ⟨rfl, rfl⟩⟩
theorem BL.own (h : BL w base v l) : ∀ q, v.ownBlock = some q → base ≤ q ∧ q < w.heap.size := World.ownsRow.lt h
theorem BL.move (h : BL w base v l) (hb : ∀ q, v.ownBlock = some q → w'.heap[q]? = w.heap[q]?) : BL w' base v l := by
  obtain ⟨h1, h2⟩ := h
  refine ⟨h1, ?_⟩
  rcases h2 with h2 | ⟨g, cap, cur, rfl, hg, h3, r⟩
  · exact .inl h2
  · exact .inr ⟨g, cap, cur, rfl, hg, (hb g rfl).trans h3, r⟩
theorem BL.on (h : BL w base v l) (hb : Below w.heap.size w w') : BL w' base v l := h.move fun q hq => hb.block q (h.own q hq).2
theorem BL.grown {q : Option Nat} (h : BL w base v l) (hg : w.grownBy w' q) (hq : ∀ k, v.ownBlock = some k → q ≠ some k) : BL w' base v l := h.move fun k hk => hg.block k (h.own k hk).2 (fun e => hq k hk e.symm)
theorem BL.but {g : Nat} (h : BL w base v l) (hb : But w.heap.size g w w') (hg : v.ownBlock ≠ some g) : BL w' base v l := h.move fun q hq => hb.block q (h.own q hq).2 (fun e => hg (by rw [hq, e]))
theorem BL.row {A : Option Addr} {m c : Nat} (h : BL w base (.slice A m c) l) : Kd.C (Kd.int .u8) w A (cN l).length (cN l) := own_Cq h
theorem BL.len {A : Option Addr} {m c : Nat} (h : BL w base (.slice A m c) l) : m = (cN l).length := by
  rcases h.2 with ⟨h1, h2⟩ | ⟨g, cap, cur, hv, _⟩
  · injection h1 with e1 e2 e3
    omega
  · injection hv
theorem BL.slice (h : BL w base v l) : ∃ A c, v = .slice A (cN l).length c := own_slice h
end
section
variable {ops : Array Oper} {rest : List Oper} {op : Oper} {a : Act} {w : World} {Q : Exit → Act → World → Prop}
/-- a whole load, a whole store -/
theorem ld_dig {g : Nat} {l : List Nat} (h : DAt w g l) (hl : l.length = 32) (hgd : op.guard = none) (x : Operand) (ho : op.op = .load 26 x) (hx : a.eval x = .pointer (some ⟨g, 0, none⟩))
    (k : wpList Try.prog ops Q rest (a.put op.dst (digV l)) w) : wpList Try.prog ops Q (op :: rest) a w :=
  wpList_load_mid hgd 26 x ho g 0 hx (ints .u8 (cN l)) _ h.range rfl rfl (by rw [ints_length, cN_length, hl]; rfl) k
end
/-- bytes in memory -/
structure Byt (w : World) (A : Option Addr) (l : List Nat) : Prop where
  c : Kd.C (Kd.int .u8) w A (cN l).length (cN l)
  b : Bs l
  n : l.length ≤ 1000
theorem Byt.on {w w' : World} {A : Option Addr} {l : List Nat} (h : Byt w A l) (hb : Below w.heap.size w w') : Byt w' A l := ⟨Kd.C_below h.c hb, h.b, h.n⟩
theorem Byt.nil (w : World) : Byt w none [] := ⟨⟨rfl, by decide, fun h => absurd h (by decide)⟩, bs_of_mem (by simp), Nat.zero_le _⟩
theorem BL.byt {w : World} {base m c : Nat} {A : Option Addr} {l : List Nat} (h : BL w base (.slice A m c) l) (hb : Bs l) (hn : l.length ≤ 1000) : Byt w A l := ⟨h.row, hb, hn⟩
theorem grown_below {w w' : World} {B : Nat} {q : Option Nat} (hg : w.grownBy w' q) (hq : ∀ k, q = some k → B ≤ k) (hB : B ≤ w.heap.size) : Below B w w' :=
  ⟨hg.os, hg.tape, hg.output, hg.size, fun i hi => hg.block i (by omega) (fun e => by have := hq i e.symm; omega)⟩
end Go.Proofs.Ytojlhmmmiebbmaa.PNonceLists
