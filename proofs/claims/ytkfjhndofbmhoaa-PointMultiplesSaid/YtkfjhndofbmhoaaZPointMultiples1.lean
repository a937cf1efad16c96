/- What the proof of PointMultiples is made of, part 1. -/
import Derived.Test.YtkfjhndofbmhoaaZPointMultiples0
import Derived.Lib.Hide
namespace Go.Proofs.Ytkfjhndofbmhoaa
open Go.RowKit
set_option linter.unusedVariables false
set_option linter.unusedSimpArgs false
def wdk (a k : Nat) : Nat := if k = 0 then wd0 a else if k = 1 then wd1 a else if k = 2 then wd2 a else wd3 a
theorem wdk_lt (a k : Nat) : wdk a k < 18446744073709551616 := by
 have h0 := wd0_lt a; have h1 := wd1_lt a; have h2 := wd2_lt a; have h3 := wd3_lt a
 unfold N64 at *; unfold wdk
 split
 ·exact h0
 split
 ·exact h1
 split
 ·exact h2
 ·exact h3
theorem wdk_pt (a k j : Nat) (hk : k < 4) (hj : j < 4) : wdk a k / 65536 ^ j % 65536 = pt a (4 * k + j) := by
 have hk4 : k = 0 ∨ k = 1 ∨ k = 2 ∨ k = 3 := by omega
 have hj4 : j = 0 ∨ j = 1 ∨ j = 2 ∨ j = 3 := by omega
 rcases hk4 with rfl | rfl | rfl | rfl <;> rcases hj4 with rfl | rfl | rfl | rfl <;> simp only [wdk, pt, wd0, wd1, wd2, wd3, if_true, if_false, Nat.reducePow, Nat.reduceMul, Nat.reduceAdd, Nat.reduceEqDiff] <;> omega
theorem Try.info3 : (Try.prog.info? 3).map (fun i => (i.zero, i.size, i.bytes)) = some (some (.int .i64 0), 1, 8) := by kernel_rfl
theorem div_next (x j : Nat) : x / 65536 ^ j / 65536 = x / 65536 ^ (j + 1) := by rw [Nat.pow_succ, Nat.div_div_eq_div_mul]
theorem div_le_self' (x j : Nat) (h : x < 18446744073709551616) : x / 65536 ^ j < 18446744073709551616 := Nat.lt_of_le_of_lt (Nat.div_le_self _ _) h
set_option maxRecDepth 100000 in
set_option maxHeartbeats 400000 in
theorem parts_calls {va : Value} {a : Nat} (ha : IsNum va a) (w : World) :
  Calls Try.prog 60 #[va] w fun e w' => ∃ g cap, e = .returned (.slice (some ⟨g, 0, none⟩) 16 cap) ∧ w.heap.size ≤ g ∧ 16 ≤ cap ∧ Rw w' 3 g (ptL a 16) ∧ Below w.heap.size w w' := by
 obtain ⟨rfl, ha⟩ := ha
 rw [numV_def]
 obtain ⟨i0, hi, hz0, hz1, hz2⟩ := info_parts Try.info3
 have c0 : wdk a 0 = wd0 a := rfl
 have c1 : wdk a 1 = wd1 a := rfl
 have c2 : wdk a 2 = wd2 a := rfl
 have c3 : wdk a 3 = wd3 a := rfl
 rw [← c0, ← c1, ← c2, ← c3]
 clear c0 c1 c2 c3
 go_enter Try.func60, Try.ntmps60
 go_wp2
 go_loopw [3, 4] (fun v i wr => ∃ k : Nat, k ≤ 4 ∧ i = .int .i64 k ∧ wr.ownsRow (w.heap.size + 1) 3 1 v (4 * k) (ptL a (4 * k)) ∧ Hid (∀ j, j < 4 → wr.cell? ⟨w.heap.size, j, none⟩ = some (.int .u64 (wdk a j : Nat))) ∧ Below w.heap.size w wr ∧ w.heap.size + 1 ≤ wr.heap.size)
  (fun _ i _ => 4 - (intOf i).toNat)
 case atStart =>
  refine ⟨0, Nat.zero_le _, rfl, World.ownsRow_nil _ _ _ _, Lib.hid ?_, by repeat (first | exact Below.refl _ _ | refine Below.alloc ?_ (by first | (simp; done) | (simp; omega)) _), by simp⟩
  intro j hj
  have hj4 : j = 0 ∨ j = 1 ∨ j = 2 ∨ j = 3 := by omega
  rcases hj4 with rfl | rfl | rfl | rfl <;> (rw [World.cell?_alloc_at _ _ _ _ rfl]; rfl)
 case round =>
  obtain ⟨k, hk, rfl, hown, HC, hbel, hsz⟩ := hrel
  by_cases hk4 : k < 4
  ·have hck := HC.out k hk4
   have hwl := wdk_lt a k
   have hkb : decide ((k : Int) < 4) = true := by simp; omega
   go_wp2
   obtain ⟨wo, rfl⟩ : ∃ wo : World, wo = wr := ⟨_, rfl⟩
   go_loopw [3, 5, 6] (fun v x i wr => ∃ j : Nat, j ≤ 4 ∧ i = .int .i64 j ∧ x = .int .u64 (wdk a k / 65536 ^ j : Nat) ∧ wr.ownsRow (w.heap.size + 1) 3 1 v (4 * k + j) (ptL a (4 * k + j)) ∧ Hid (∀ j, j < 4 → wr.cell? ⟨w.heap.size, j, none⟩ = some (.int .u64 (wdk a j : Nat))) ∧ Below w.heap.size w wr ∧ w.heap.size + 1 ≤ wr.heap.size)
    (fun _ _ i _ => 4 - (intOf i).toNat)
   case atStart =>
    exact ⟨0, Nat.zero_le _, rfl, by simp, hown, HC, hbel, hsz⟩
   case round =>
    obtain ⟨j, hj, rfl, rfl, hown2, HC2, hbel2, hsz2⟩ := hrel
    by_cases hj4 : j < 4
    ·have hx : wdk a k / 65536 ^ j < 18446744073709551616 := div_le_self' _ _ hwl
     have hp := wdk_pt a k j hk4 hj4
     have hn := div_next (wdk a k) j
     have HP := Lib.hid hp
     have HN := Lib.hid hn
     clear hp hn
     obtain ⟨x, hxe⟩ : ∃ x, x = wdk a k / 65536 ^ j := ⟨_, rfl⟩
     rw [← hxe] at HP HN hx
     rw [← hxe]
     have HX := Lib.hid hxe
     clear hxe
     go_wp2_with (at_builtin; refine wpList_append_own _ rfl _ _ 83 rfl (w.heap.size + 1) 3 i0 (.int .i64 0) 1 8 Try.underlying83 hi hz0 hz1 hz2 rfl (by decide) _ _ _ rfl (hown2.alloc _) ⟨wr.heap.size, 0, none⟩ 1 1 [.int .i64 (x % 65536)] rfl rfl ?c1 ?c2 ?c3 ?c4 ?c5 ?_)
     case c1 =>
      intro q u hq
      match q, hq with
      | 0, hq => simp at hq; subst hq; simp [Addr.add]
     case c2 => intro u hu; simp at hu; subst hu; rfl
     case c3 => unfold maxLen; omega
     case c4 => omega
     case c5 => simp; omega
     intro v' w1 hown' hgrow _
     have hgb : Below w.heap.size w w1 := (hbel2.alloc (by omega) _).grown hgrow (by simp; omega) (fun q hq => by have := hown2.lt q hq; omega)
     have hcells : ∀ q, q < 4 → w1.cell? ⟨w.heap.size, q, none⟩ = some (.int .u64 (wdk a q : Nat)) := fun q hq => by
      refine hgrow.cell ?_ (fun e => ?_)
      ·rw [World.cell?_alloc_past _ _ _ (by omega)]; exact HC2.out q hq
      ·have h1 : w.heap.size + 1 ≤ w.heap.size := (hown2.lt _ e.symm).1
       omega
     have HC3 := Lib.hid hcells
     have hs1 : w.heap.size + 1 ≤ w1.heap.size := by have := hgrow.size; simp at this; omega
     have hown3 : w1.ownsRow (w.heap.size + 1) 3 1 v' (4 * k + (j + 1)) (ptL a (4 * k + (j + 1))) := by
      have e : (.int .i64 ((x : Int) % 65536) : Value) = .int .i64 (pt a (4 * k + j) : Nat) := by rw [← HP.out]; rfl
      rw [e, ← ptL_succ] at hown'
      exact hown'
     clear hown' hgrow hcells hown2 hbel2 HC2 hck hown
     go_wp2
     go_roundw
     case rel => exact ⟨j + 1, by omega, by go_num, by rw [← HN.out]; rfl, hown3, HC3, hgb, hs1⟩
     case measure => simp [intOf]; omega
    ·have hj5 : j = 4 := by omega
     subst hj5
     go_wp2
     go_roundw
     case rel => exact ⟨k + 1, by omega, by go_num, hown2, HC2, hbel2, hsz2⟩
     case measure => simp [intOf]; omega
  ·have hk5 : k = 4 := by omega
   subst hk5
   obtain ⟨g, cap, rfl, hg, hcap, hrw⟩ := Rw.of_owns hown (by omega)
   go_wp2
   go_ret
   exact ⟨g, cap, rfl, by omega, hcap, hrw, hbel⟩
end Go.Proofs.Ytkfjhndofbmhoaa
