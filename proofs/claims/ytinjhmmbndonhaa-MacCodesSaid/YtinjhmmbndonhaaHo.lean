/- A Hash that has taken a text: the contracts, told by the text. -/
import Derived.Test.YtinjhmmbndonhaaHn
namespace Go.Proofs.Ytinjhmmbndonhaa.PShaSums
open Go.RowKit Go.Proofs.YtinjhmmbndonhaaW.PrintWords Go.Proofs.YtinjhmmbndonhaaW.PrintLast Go.Proofs.YtinjhmmbndonhaaW.PrintMore Go.Proofs.Ytinjhmmbndonhaa.Sha Go.Proofs.Ytinjhmmbndonhaa.Arr
set_option linter.unusedVariables false
set_option linter.unusedSimpArgs false
/-- block g holds a Hash that has taken xs -/
def Took (w : World) (g : Nat) (xs : List Nat) (v : Value) : Prop := HashAt w g (run IV xs).1 (run IV xs).2 xs.length v
theorem run_nil : run IV [] = (IV, []) := run_end IV [] (by simp)
theorem rest_le (xs : List Nat) : (run IV xs).2.length < 64 := run_rest xs.length IV xs (Nat.le_refl _)
theorem took_new (w : World) : Calls Try.prog 12 #[] w fun e w' => ∃ g, e = .returned (.pointer (some ⟨g, 0, none⟩)) ∧ w.heap.size ≤ g ∧ Took w' g [] (.slice none 0 0) ∧ Below w.heap.size w w' := by
  refine (new_calls w).mono ?_
  rintro e w' ⟨g, rfl, hg, hH, hB⟩
  refine ⟨g, rfl, hg, ?_, hB⟩
  unfold Took
  rw [run_nil]
  exact hH
theorem took_len (w : World) (g : Nat) (xs : List Nat) (v : Value) (h : Took w g xs v) : Calls Try.prog 14 #[.pointer (some ⟨g, 0, none⟩)] w fun e w' => e = .returned (.int .i64 (xs.length : Int)) ∧ w' = w := len_calls w g _ _ _ v h
theorem took_sum (w : World) (g : Nat) (xs : List Nat) (v : Value) (h : Took w g xs v) (hl : xs.length ≤ 1000000000) : Calls Try.prog 13 #[.pointer (some ⟨g, 0, none⟩)] w fun e w' => e = .returned (.agg (ints .u8 (cN (sum xs))).toArray) ∧ Below w.heap.size w w' := by
  have h1 := hsum_calls w g _ _ _ v h (by have := rest_le xs; omega) (by omega)
  rwa [sum_eq] at h1
theorem took_write (A0 : Option Addr) (k0 : Nat) (ys : List Nat) (w : World) (g : Nat) (xs : List Nat) (v : Value) (h : Took w g xs v) (hr : Kd.C (Kd.int .u8) w A0 (cN ys).length (cN ys)) (hx : Bs ys)
    (hf : ∀ ad, A0 = some ad → 0 < (cN ys).length → ad.block ≠ g) (hl : xs.length + ys.length ≤ 1000000000) :
    Calls Try.prog 15 #[.pointer (some ⟨g, 0, none⟩), .slice A0 (cN ys).length k0] w fun e w' => e = .returned (.tuple #[]) ∧ ∃ v', Took w' g (xs ++ ys) v' ∧ KB w w' g v.ownBlock ∧ (v'.ownBlock = v.ownBlock ∨ ∃ b, v'.ownBlock = some b ∧ w.heap.size ≤ b) := by
  have h1 := write_calls A0 k0 ys w g _ _ _ v h hr hx hf (by have := rest_le xs; omega) (by omega)
  rw [← run_append xs.length IV xs ys (Nat.le_refl _), ← List.length_append] at h1
  exact h1
theorem took_clone (w : World) (g : Nat) (xs : List Nat) (v : Value) (h : Took w g xs v) : Calls Try.prog 16 #[.pointer (some ⟨g, 0, none⟩)] w fun e w' => ∃ g', e = .returned (.pointer (some ⟨g', 0, none⟩)) ∧ w.heap.size ≤ g' ∧ ∃ v', Took w' g' xs v' ∧ (∀ k, v'.ownBlock = some k → w.heap.size ≤ k) ∧ Below w.heap.size w w' :=
  clone_calls w g _ _ _ v h (by have := rest_le xs; omega)
section
variable {w w1 : World} {g g' : Nat} {xs ys : List Nat} {v v' : Value} {row : Option Nat}
theorem Took.size (h : Took w g xs v) : g < w.heap.size := HashAt.size h
theorem Took.below (h : Took w g xs v) (hb : Below w.heap.size w w1) : Took w1 g xs v := HashAt.below h hb
theorem Took.lt (h : Took w g xs v) (k : Nat) (hk : v.ownBlock = some k) : k < w.heap.size := own_lt (HashAt.own h) k hk
/-- another Hash was written -/
theorem Took.kept (h : Took w g xs v) (h' : Took w g' ys v') (k : KB w w1 g' v'.ownBlock) (hg : g ≠ g') (hr : ∀ j, v.ownBlock = some j → some j ≠ v'.ownBlock) : Took w1 g xs v := by
  refine HashAt.kept h (k.keep.2 g h.size hg ?_) (fun j hj => k.keep.2 j (h.lt j hj) ?_ (hr j hj))
  · exact own_ne (HashAt.own h') (HashAt.row h) (by decide)
  · intro e
    subst e
    exact own_ne (HashAt.own h) (HashAt.row h') (by decide) hj.symm
/-- a row that was there before the Hash is not in its block -/
theorem old_row {A0 : Option Addr} (hr : Kd.C (Kd.int .u8) w A0 (cN ys).length (cN ys)) (hg : w.heap.size ≤ g) : ∀ ad, A0 = some ad → 0 < (cN ys).length → ad.block ≠ g := by
  intro ad e hp he
  obtain ⟨ad', e', hc⟩ := (reads_of .u8 hr).2.2 hp
  rw [e] at e'
  injection e' with e'
  subst e'
  have h1 := hc 0 hp
  have h2 := World.block_lt_of_cell? w _ h1
  have h3 : (ad.add 0).block = ad.block := by unfold Addr.add; split <;> rfl
  rw [h3, he] at h2
  omega
end
end Go.Proofs.Ytinjhmmbndonhaa.PShaSums
