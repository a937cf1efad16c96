/- The Hash in memory; New, Len. -/
import Derived.Test.YtinjhmmbndonhaaHg
namespace Go.Proofs.Ytinjhmmbndonhaa.PShaSums
open Go.RowKit Go.Proofs.YtinjhmmbndonhaaW.PrintWords Go.Proofs.YtinjhmmbndonhaaW.PrintLast Go.Proofs.YtinjhmmbndonhaaW.PrintMore Go.Proofs.Ytinjhmmbndonhaa.Sha Go.Proofs.Ytinjhmmbndonhaa.Arr
attribute [local go_sem] max2_int min2_int max_two min_two max_three min_three max_four min_four
attribute [local go_sem high] u8_w
set_option linter.unusedVariables false
set_option linter.unusedSimpArgs false
/-- bytes: numbers below 256 -/
def Bs (l : List Nat) : Prop := ∀ i, l.getD i 0 < 256
/-- block g holds a Hash: the state s, the rest (its row is v), n bytes taken -/
structure HashAt (w : World) (g : Nat) (s : H8) (rest : List Nat) (n : Nat) (v : Value) : Prop where
  row : Row 50 w g (ints .u32 (cN s.list) ++ [v, .int .i64 (n : Int)])
  own : w.ownsRow 0 5 1 v (cN rest).length (nums .u8 (cN rest))
  ok : okH s
  bytes : Bs rest
/-- all is as it was but for block g and the block of the row -/
structure KB (w w' : World) (g : Nat) (row : Option Nat) : Prop where
  os : w'.os = w.os
  tape : w'.tape = w.tape
  output : w'.output = w.output
  keep : KeepBut w w' g row
section
variable {w w1 w2 : World} {g n : Nat} {s : H8} {rest : List Nat} {v : Value} {row row1 : Option Nat}
theorem KB.refl (w : World) (g : Nat) (row : Option Nat) : KB w w g row := ⟨rfl, rfl, rfl, KeepBut.refl _ _ _⟩
theorem KB.trans (h : KB w w1 g row) (k : KB w1 w2 g row1) (hr : row1 = row ∨ ∃ b, row1 = some b ∧ w.heap.size ≤ b) : KB w w2 g row := ⟨k.os.trans h.os, k.tape.trans h.tape, k.output.trans h.output, h.keep.trans k.keep hr⟩
theorem KB.but (h : But w.heap.size g w w1) : KB w w1 g row := ⟨h.os, h.tape, h.output, h.size, fun i hi hg _ => h.block i hi hg⟩
theorem KB.grown (h : w.grownBy w1 row) : KB w w1 g row := ⟨h.os, h.tape, h.output, KeepBut.of_grown h g⟩
theorem KB.of (h : Below w.heap.size w w1) : KB w w1 g row := ⟨h.os, h.tape, h.output, KeepBut.of_below h g row⟩
theorem KB.set (h : KB w w1 g row) (j : Nat) (u : Value) : KB w (w1.setCell ⟨g, j, none⟩ u) g row := ⟨h.os, h.tape, h.output, h.keep.set_ j u⟩
theorem KB.drew (h : KB w w1 g row) : KB w w1.drew g row := ⟨h.os, h.tape, h.output, h.keep⟩
theorem KB.drewN (h : KB w w1 g row) (m : Nat) : KB w (w1.drewN m) g row := ⟨h.os, h.tape, h.output, h.keep⟩
theorem HashAt.ne (h : HashAt w g s rest n v) : some g ≠ v.ownBlock := own_ne h.own h.row (by decide)
theorem HashAt.c8 (h : HashAt w g s rest n v) : w.cell? ⟨g, 8, none⟩ = some v := h.row.cell 8 _ rfl
theorem HashAt.c9 (h : HashAt w g s rest n v) : w.cell? ⟨g, 9, none⟩ = some (.int .i64 (n : Int)) := h.row.cell 9 _ rfl
theorem HashAt.free (h : HashAt w g s rest n v) (i : Nat) : w.frozen? ⟨g, i, none⟩ = false := h.row.free i
theorem HashAt.size (h : HashAt w g s rest n v) : g < w.heap.size := h.row.size
/-- the Hash stands where the two blocks stand -/
theorem HashAt.kept (h : HashAt w g s rest n v) (hg : w1.heap[g]? = w.heap[g]?) (hv : ∀ k, v.ownBlock = some k → w1.heap[k]? = w.heap[k]?) : HashAt w1 g s rest n v :=
  ⟨h.row.block hg, own_move h.own hv, h.ok, h.bytes⟩
theorem HashAt.below (h : HashAt w g s rest n v) (hb : Below w.heap.size w w1) : HashAt w1 g s rest n v :=
  h.kept (hb.block g h.size) (fun k hk => hb.block k (own_lt h.own k hk))
/-- the rest as a slice -/
theorem HashAt.slice (h : HashAt w g s rest n v) : ∃ A c, v = .slice A (cN rest).length c ∧ (cN rest).length ≤ c ∧ Kd.C (Kd.int .u8) w A (cN rest).length (cN rest) := by
  obtain ⟨A, c, e, hle, hr⟩ := own_reads_of_le (enc := Value.int .u8) (d := (0 : Int)) h.own
  exact ⟨A, c, e, hle, Kd.C_of_reads hr⟩
end
theorem IV_ok : okH IV := by unfold okH; decide +kernel
set_option maxHeartbeats 4000000 in
set_option maxRecDepth 100000 in
theorem new_calls (w : World) :
    Calls Try.prog 12 #[] w fun e w' => ∃ g, e = .returned (.pointer (some ⟨g, 0, none⟩)) ∧ w.heap.size ≤ g ∧ HashAt w' g IV [] 0 (.slice none 0 0) ∧ Below w.heap.size w w' := by
  go_enter Try.func12, Try.ntmps12
  go_wp2
  refine bodyPost_ret (results_tmp rfl _ _ _) rfl ⟨w.heap.size, rfl, Nat.le_refl _, ?_, below_alloc (Below.refl _ _) _⟩
  exact ⟨heap_alloc_new w _, own_nil _ _ _ _, IV_ok, fun i => by show (([] : List Nat).getD i 0) < 256; simp⟩
set_option maxHeartbeats 4000000 in
set_option maxRecDepth 100000 in
theorem len_calls (w : World) (g n : Nat) (s : H8) (rest : List Nat) (v : Value) (h : HashAt w g s rest n v) :
    Calls Try.prog 14 #[.pointer (some ⟨g, 0, none⟩)] w fun e w' => e = .returned (.int .i64 (n : Int)) ∧ w' = w := by
  have c9 := h.c9
  have H := Aside0.mk h
  clear h
  go_enter Try.func14, Try.ntmps14
  go_wp2
  refine bodyPost_ret (results_tmp rfl _ _ _) rfl ⟨rfl, rfl⟩
end Go.Proofs.Ytinjhmmbndonhaa.PShaSums
