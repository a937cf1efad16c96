/- slices.Chunk's iterator over bytes, sixteen at a time. -/
import Derived.RangeFuncNested
import Derived.RangeFuncBound
import Derived.RangeFuncCalls
import Derived.RangeFuncLeaves
import Derived.RangeFuncBox
import Derived.Shelf.Abstract
import Derived.Shelf.RegionOpen
import Derived.WalkKit
import Derived.OwnWalkIn
import Derived.TacticsInMore
import Derived.LoopNIn
import Derived.LoopIn
import Derived.Maps.AppendAt
import Derived.Test.YtkaeoeebagndaaaOfx
namespace Go.Proofs.Ytkaeoeebagndaaa.PRevokeBoth
open Go.RowKit Go.Shelf Go.Proofs.YtkaeoeebagndaaaW.PrintWords Go.Proofs.YtkaeoeebagndaaaW.PrintLast Go.Proofs.YtkaeoeebagndaaaW.PrintMore
attribute [local go_sem] Oper.semAt_some max2_int min2_int
set_option linter.unusedVariables false
set_option linter.unusedSimpArgs false
/-- a row's number -/
abbrev Ix (N : Nat) := { i : Nat // i < N }
set_option maxRecDepth 100000 in
set_option maxHeartbeats 2000000 in
theorem chunk1_in (F : Fence) (n : Nat) (h33 : F.fn 33) (hro : F.round = none) (hn : 1 ≤ n) (l Bs Bc b off N cap : Nat) (hcap : 16 * N ≤ cap) (hreach : 16 * N ≤ 140737488351232) (Kp : World → World → Prop) (hKs : ∀ V V', Kp V V' → V'.cell? ⟨Bs, 0, none⟩ = V.cell? ⟨Bs, 0, none⟩) (hKc : ∀ V V', Kp V V' → V'.cell? ⟨Bc, 0, none⟩ = V.cell? ⟨Bc, 0, none⟩) (J Jx : List (Ix N) → World → Prop) (hJd : ∀ pre V, J pre V → J pre V.drew)
    (hY : ∀ pre x W, J pre W → pre.length < N → YieldAt F (n - 1) Try.prog l #[.slice (some ⟨b, off + 16 * x.1, none⟩) 16 16] W fun e W' =>
      (e = .returned (.bool true) ∧ J (pre ++ [x]) W' ∧ Kp W W') ∨ (e = .returned (.bool false) ∧ Jx (pre ++ [x]) W'))
    (W : World) (hBs : W.cell? ⟨Bs, 0, none⟩ = some (.slice (some ⟨b, off, none⟩) (16 * N) cap)) (hBc : W.cell? ⟨Bc, 0, none⟩ = some (.int .i64 16)) (h0 : J [] W) :
    CallsIn F n Try.prog 33 #[.func (.yield l) #[] #[], .pointer (some ⟨Bs, 0, none⟩), .pointer (some ⟨Bc, 0, none⟩)] W fun e W' => (∃ v, e = .returned v) ∧
      ((∃ ys : List (Ix N), ys.map Subtype.val = List.range N ∧ J ys W') ∨ (∃ pre : List (Ix N), (∃ k, k ≤ N ∧ pre.map Subtype.val = List.range k) ∧ Jx pre W')) := by
  refine callsIn_of_wp Try.func33 rfl h33 ?_ hro
  simp only [Try.ntmps33, List.size_toArray, List.length_cons, List.length_nil, Nat.reduceAdd, Nat.reduceSub, Array.replicate_succ, Array.replicate_zero, List.push_toArray, List.append_toArray, List.nil_append, List.cons_append]
  gi_wp2
  gi_loopw [4] (fun i wr => ∃ (k : Nat) (pre : List (Ix N)), k ≤ N ∧ i = .int .i64 ((16 * k : Nat) : Int) ∧ pre.map Subtype.val = List.range k ∧ J pre wr ∧ wr.cell? ⟨Bs, 0, none⟩ = some (.slice (some ⟨b, off, none⟩) (16 * N) cap) ∧ wr.cell? ⟨Bc, 0, none⟩ = some (.int .i64 16))
    (fun i _ => 16 * N - (intOf i).toNat)
  case atStart => exact ⟨0, [], Nat.zero_le _, rfl, rfl, h0, hBs, hBc⟩
  case round =>
    obtain ⟨k, pre, hk, rfl, hpre, hJs, hb1, hb2⟩ := hrel
    have hpl : pre.length = k := by have := congrArg List.length hpre; simpa using this
    by_cases hlt : k < N
    · obtain ⟨fn, tmps, assign, body, hy, hR⟩ := hY _ ⟨k, hlt⟩ wr.drew (hJd _ _ hJs) (by omega)
      dsimp only at hy
      have hps : (pre ++ [(⟨k, hlt⟩ : Ix N)]).map Subtype.val = List.range (k + 1) := by rw [List.map_append, hpre, List.range_succ]; rfl
      have hd : decide (((16 * k : Nat) : Int) < ((16 * N : Nat) : Int)) = true := decide_eq_true (by omega)
      have hm : ¬ (((16 * N - 16 * k : Nat) : Int) < 16) := by omega
      have hw : wrap64 (16 * (k : Int) + 16) = 16 * (k : Int) + 16 := by unfold wrap64; omega
      gi_wp2
      gi_region
      all_goals
        gi_wp2
        refine hR.mono ?_
        rintro e W3 (⟨rfl, hJ3, hk3⟩ | ⟨rfl, hJx3⟩)
        · have hb3 := (hKc _ _ hk3).trans hb2
          have hb4 := (hKs _ _ hk3).trans hb1
          gi_wp2
          go_roundw
          case rel => exact ⟨k + 1, _, by omega, by first | (congr 1; done) | (congr 1; omega), hps, hJ3, hb4, hb3⟩
          case measure => simp [intOf]; omega
        · gi_wp2
          refine bodyPost_ret (results_none rfl _ _ _) rfl ?_
          exact ⟨⟨_, rfl⟩, .inr ⟨_, ⟨k + 1, by omega, hps⟩, hJx3⟩⟩
    · obtain rfl : k = N := by omega
      gi_wp2
      go_end0
      exact ⟨⟨_, rfl⟩, .inl ⟨_, hpre, hJs⟩⟩
set_option maxRecDepth 100000 in
set_option maxHeartbeats 2000000 in
theorem chunk1_nil_in (F : Fence) (n : Nat) (h33 : F.fn 33) (hro : F.round = none) (l Bs Bc cap : Nat) (A : Option Addr) {N : Nat} (J : List (Ix N) → World → Prop) (W : World)
    (hBs : W.cell? ⟨Bs, 0, none⟩ = some (.slice A 0 cap)) (h0 : J [] W) :
    CallsIn F n Try.prog 33 #[.func (.yield l) #[] #[], .pointer (some ⟨Bs, 0, none⟩), .pointer (some ⟨Bc, 0, none⟩)] W fun e W' => (∃ v, e = .returned v) ∧ J [] W' := by
  refine callsIn_of_wp Try.func33 rfl h33 ?_ hro
  simp only [Try.ntmps33, List.size_toArray, List.length_cons, List.length_nil, Nat.reduceAdd, Nat.reduceSub, Array.replicate_succ, Array.replicate_zero, List.push_toArray, List.append_toArray, List.nil_append, List.cons_append]
  gi_wp2
  gi_loopw [4] (fun i wr => i = .int .i64 0 ∧ J [] wr ∧ wr.cell? ⟨Bs, 0, none⟩ = some (.slice A 0 cap)) (fun _ _ => 0)
  case atStart => exact ⟨rfl, h0, hBs⟩
  case round =>
    obtain ⟨rfl, hJs, hbs⟩ := hrel
    gi_wp2
    go_end0
    exact ⟨⟨_, rfl⟩, hJs⟩
set_option maxHeartbeats 1000000 in
/-- slices.Chunk(s, 16): the slice and the number are boxed; the function value captures both boxes -/
theorem chunk_in (F : Fence) (n : Nat) (h26 : F.fn 26) (hro : F.round = none) (A : Option Addr) (len cap : Nat) (w : World) :
    CallsIn F n Try.prog 26 #[.slice A len cap, .int .i64 16] w fun e w' => e = .returned (.func (.func 33) #[] #[.pointer (some ⟨w.heap.size, 0, none⟩), .pointer (some ⟨w.heap.size + 1, 0, none⟩)]) ∧ w' = (w.alloc (.cells #[.slice A len cap] 32)).alloc (.cells #[.int .i64 16] 3) := by
  refine callsIn_of_wp Try.func26 rfl h26 ?_ hro
  simp only [Try.ntmps26, List.size_toArray, List.length_cons, List.length_nil, Nat.reduceAdd, Nat.reduceSub, Array.replicate_succ, Array.replicate_zero, List.push_toArray, List.append_toArray, List.nil_append, List.cons_append]
  gi_wp2
  go_ret
  exact ⟨rfl, rfl⟩
/-- the rows of bytes, one behind the other -/
theorem chunk_stops (F : Fence) (n : Nat) (h33 : F.fn 33) (hro : F.round = none) (hn : 1 ≤ n) (Bs Bc b off N cap : Nat) (A : Option Addr) (hA : 0 < N → A = some ⟨b, off, none⟩) (hcap : 16 * N ≤ cap) (hreach : 16 * N ≤ 140737488351232) (w : World)
    (Kp : World → World → Prop) (hKs : ∀ V V', Kp V V' → V'.cell? ⟨Bs, 0, none⟩ = V.cell? ⟨Bs, 0, none⟩) (hKc : ∀ V V', Kp V V' → V'.cell? ⟨Bc, 0, none⟩ = V.cell? ⟨Bc, 0, none⟩)
    (hs : Bs < w.heap.size) (hc : Bc < w.heap.size) (hBs : w.cell? ⟨Bs, 0, none⟩ = some (.slice A (16 * N) cap)) (hBc : w.cell? ⟨Bc, 0, none⟩ = some (.int .i64 16)) :
    SeqStopsK F n Try.prog 33 #[.pointer (some ⟨Bs, 0, none⟩), .pointer (some ⟨Bc, 0, none⟩)] (fun x : Ix N => #[.slice (some ⟨b, off + 16 * x.1, none⟩) 16 16]) Kp (fun ys => ys.map Subtype.val = List.range N) (fun pre => ∃ k, k ≤ N ∧ pre.map Subtype.val = List.range k) N w := fun l J Jx W hW hJ _ hY h0 => by
  have e1 := (hW.cell (p := ⟨Bs, 0, none⟩) hs).trans hBs
  have e2 := (hW.cell (p := ⟨Bc, 0, none⟩) hc).trans hBc
  by_cases hN : 0 < N
  · rw [hA hN] at e1
    exact chunk1_in F n h33 hro hn l Bs Bc b off N cap hcap hreach Kp hKs hKc J Jx (fun pre V hV => hJ pre V _ none hV ⟨rfl, rfl, rfl, Nat.le_refl _, fun _ _ _ => rfl⟩ (fun r e => by cases e)) hY W e1 e2 h0
  · obtain rfl : N = 0 := by omega
    exact (chunk1_nil_in F n h33 hro l Bs Bc cap A J W e1 h0).mono fun e W' ⟨he, hj⟩ => ⟨he, .inl ⟨[], rfl, hj⟩⟩
end Go.Proofs.Ytkaeoeebagndaaa.PRevokeBoth
