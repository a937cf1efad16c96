/- What the proof of RevokeTells is made of, part 12. -/
import Derived.RangeFuncNested
import Derived.RangeFuncBound
import Derived.RangeFuncCalls
import Derived.RangeFuncLeaves
import Derived.RangeFuncBox
import Derived.Shelf.Abstract
import Derived.Shelf.RegionOpen
import Derived.WalkKit
import Derived.OwnWalkIn
import Derived.TacticsInMore
import Derived.LoopNIn
import Derived.LoopIn
import Derived.Maps.AppendAt
import Derived.Test.YtkaeoeebagndaaaZRevokeTells9
namespace Go.Proofs.Ytkaeoeebagndaaa.PRevokeTells
open Go.RowKit Go.Shelf Go.Proofs.YtkaeoeebagndaaaW.PrintWords Go.Proofs.YtkaeoeebagndaaaW.PrintLast Go.Proofs.YtkaeoeebagndaaaW.PrintMore
attribute [local go_sem] Oper.semAt_some max2_int min2_int
set_option linter.unusedVariables false
set_option linter.unusedSimpArgs false
/-- a row's number -/
abbrev Ix (N : Nat) := { i : Nat // i < N }
set_option maxRecDepth 100000 in
set_option maxHeartbeats 2000000 in
theorem chunk1_in (F : Fence) (n : Nat) (h33 : F.fn 33) (hro : F.round = none) (hn : 1 ≤ n) (l Bs Bc b off N cap : Nat) (hcap : 16 * N ≤ cap) (hreach : 16 * N ≤ 140737488351232) (Kp : World → World → Prop) (hKs : ∀ V V', Kp V V' → V'.cell? ⟨Bs, 0, none⟩ = V.cell? ⟨Bs, 0, none⟩) (hKc : ∀ V V', Kp V V' → V'.cell? ⟨Bc, 0, none⟩ = V.cell? ⟨Bc, 0, none⟩) (J Jx : List (Ix N) → World → Prop) (hJd : ∀ pre V, J pre V → J pre V.drew)
    (hY : ∀ pre x W, J pre W → pre.length < N → YieldAt F (n - 1) Try.prog l #[.slice (some ⟨b, off + 16 * x.1, none⟩) 16 16] W fun e W' =>
      (e = .returned (.bool true) ∧ J (pre ++ [x]) W' ∧ Kp W W') ∨ (e = .returned (.bool false) ∧ Jx (pre ++ [x]) W'))
    (W : World) (hBs : W.cell? ⟨Bs, 0, none⟩ = some (.slice (some ⟨b, off, none⟩) (16 * N) cap)) (hBc : W.cell? ⟨Bc, 0, none⟩ = some (.int .i64 16)) (h0 : J [] W) :
    CallsIn F n Try.prog 33 #[.func (.yield l) #[] #[], .pointer (some ⟨Bs, 0, none⟩), .pointer (some ⟨Bc, 0, none⟩)] W fun e W' => (∃ v, e = .returned v) ∧
      ((∃ ys : List (Ix N), ys.map Subtype.val = List.range N ∧ J ys W') ∨ (∃ pre : List (Ix N), (∃ k, k ≤ N ∧ pre.map Subtype.val = List.range k) ∧ Jx pre W')) := by
  refine callsIn_of_wp Try.func33 rfl h33 ?_ hro
  simp only [Try.ntmps33, List.size_toArray, List.length_cons, List.length_nil, Nat.reduceAdd, Nat.reduceSub, Array.replicate_succ, Array.replicate_zero, List.push_toArray, List.append_toArray, List.nil_append, List.cons_append]
  gi_wp2
  gi_loopw [4] (fun i wr => ∃ (k : Nat) (pre : List (Ix N)), k ≤ N ∧ i = .int .i64 ((16 * k : Nat) : Int) ∧ pre.map Subtype.val = List.range k ∧ J pre wr ∧ wr.cell? ⟨Bs, 0, none⟩ = some (.slice (some ⟨b, off, none⟩) (16 * N) cap) ∧ wr.cell? ⟨Bc, 0, none⟩ = some (.int .i64 16))
    (fun i _ => 16 * N - (intOf i).toNat)
  case atStart => exact ⟨0, [], Nat.zero_le _, rfl, rfl, h0, hBs, hBc⟩
  case round =>
    obtain ⟨k, pre, hk, rfl, hpre, hJs, hb1, hb2⟩ := hrel
    have hpl : pre.length = k := by have := congrArg List.length hpre; simpa using this
    by_cases hlt : k < N
    · obtain ⟨fn, tmps, assign, body, hy, hR⟩ := hY _ ⟨k, hlt⟩ wr.drew (hJd _ _ hJs) (by omega)
      dsimp only at hy
      have hps : (pre ++ [(⟨k, hlt⟩ : Ix N)]).map Subtype.val = List.range (k + 1) := by rw [List.map_append, hpre, List.range_succ]; rfl
      have hd : decide (((16 * k : Nat) : Int) < ((16 * N : Nat) : Int)) = true := decide_eq_true (by omega)
      have hm : ¬ (((16 * N - 16 * k : Nat) : Int) < 16) := by omega
      have hw : wrap64 (16 * (k : Int) + 16) = 16 * (k : Int) + 16 := by unfold wrap64; omega
      gi_wp2
      gi_region
      all_goals
        gi_wp2
        refine hR.mono ?_
        rintro e W3 (⟨rfl, hJ3, hk3⟩ | ⟨rfl, hJx3⟩)
        · have hb3 := (hKc _ _ hk3).trans hb2
          have hb4 := (hKs _ _ hk3).trans hb1
          gi_wp2
          go_roundw
          case rel => exact ⟨k + 1, _, by omega, by first | (congr 1; done) | (congr 1; omega), hps, hJ3, hb4, hb3⟩
          case measure => simp [intOf]; omega
        · gi_wp2
          refine bodyPost_ret (results_none rfl _ _ _) rfl ?_
          exact ⟨⟨_, rfl⟩, .inr ⟨_, ⟨k + 1, by omega, hps⟩, hJx3⟩⟩
    · obtain rfl : k = N := by omega
      gi_wp2
      go_end0
      exact ⟨⟨_, rfl⟩, .inl ⟨_, hpre, hJs⟩⟩
set_option maxRecDepth 100000 in
set_option maxHeartbeats 2000000 in
theorem chunk1_nil_in (F : Fence) (n : Nat) (h33 : F.fn 33) (hro : F.round = none) (l Bs Bc cap : Nat) (A : Option Addr) {N : Nat} (J : List (Ix N) → World → Prop) (W : World)
    (hBs : W.cell? ⟨Bs, 0, none⟩ = some (.slice A 0 cap)) (h0 : J [] W) :
    CallsIn F n Try.prog 33 #[.func (.yield l) #[] #[], .pointer (some ⟨Bs, 0, none⟩), .pointer (some ⟨Bc, 0, none⟩)] W fun e W' => (∃ v, e = .returned v) ∧ J [] W' := by
  refine callsIn_of_wp Try.func33 rfl h33 ?_ hro
  simp only [Try.ntmps33, List.size_toArray, List.length_cons, List.length_nil, Nat.reduceAdd, Nat.reduceSub, Array.replicate_succ, Array.replicate_zero, List.push_toArray, List.append_toArray, List.nil_append, List.cons_append]
  gi_wp2
  gi_loopw [4] (fun i wr => i = .int .i64 0 ∧ J [] wr ∧ wr.cell? ⟨Bs, 0, none⟩ = some (.slice A 0 cap)) (fun _ _ => 0)
  case atStart => exact ⟨rfl, h0, hBs⟩
  case round =>
    obtain ⟨rfl, hJs, hbs⟩ := hrel
    gi_wp2
    go_end0
    exact ⟨⟨_, rfl⟩, hJs⟩
set_option maxHeartbeats 1000000 in
/-- slices.Chunk(s, 16): the slice and the number are boxed; the function value captures both boxes -/
theorem chunk_in (F : Fence) (n : Nat) (h26 : F.fn 26) (hro : F.round = none) (A : Option Addr) (len cap : Nat) (w : World) :
    CallsIn F n Try.prog 26 #[.slice A len cap, .int .i64 16] w fun e w' => e = .returned (.func (.func 33) #[] #[.pointer (some ⟨w.heap.size, 0, none⟩), .pointer (some ⟨w.heap.size + 1, 0, none⟩)]) ∧ w' = (w.alloc (.cells #[.slice A len cap] 32)).alloc (.cells #[.int .i64 16] 3) := by
  refine callsIn_of_wp Try.func26 rfl h26 ?_ hro
  simp only [Try.ntmps26, List.size_toArray, List.length_cons, List.length_nil, Nat.reduceAdd, Nat.reduceSub, Array.replicate_succ, Array.replicate_zero, List.push_toArray, List.append_toArray, List.nil_append, List.cons_append]
  gi_wp2
  go_ret
  exact ⟨rfl, rfl⟩
/-- the rows of bytes, one behind the other -/
theorem chunk_stops (F : Fence) (n : Nat) (h33 : F.fn 33) (hro : F.round = none) (hn : 1 ≤ n) (Bs Bc b off N cap : Nat) (A : Option Addr) (hA : 0 < N → A = some ⟨b, off, none⟩) (hcap : 16 * N ≤ cap) (hreach : 16 * N ≤ 140737488351232) (w : World)
    (Kp : World → World → Prop) (hKs : ∀ V V', Kp V V' → V'.cell? ⟨Bs, 0, none⟩ = V.cell? ⟨Bs, 0, none⟩) (hKc : ∀ V V', Kp V V' → V'.cell? ⟨Bc, 0, none⟩ = V.cell? ⟨Bc, 0, none⟩)
    (hs : Bs < w.heap.size) (hc : Bc < w.heap.size) (hBs : w.cell? ⟨Bs, 0, none⟩ = some (.slice A (16 * N) cap)) (hBc : w.cell? ⟨Bc, 0, none⟩ = some (.int .i64 16)) :
    SeqStopsK F n Try.prog 33 #[.pointer (some ⟨Bs, 0, none⟩), .pointer (some ⟨Bc, 0, none⟩)] (fun x : Ix N => #[.slice (some ⟨b, off + 16 * x.1, none⟩) 16 16]) Kp (fun ys => ys.map Subtype.val = List.range N) (fun pre => ∃ k, k ≤ N ∧ pre.map Subtype.val = List.range k) N w := fun l J Jx W hW hJ _ hY h0 => by
  have e1 := (hW.cell (p := ⟨Bs, 0, none⟩) hs).trans hBs
  have e2 := (hW.cell (p := ⟨Bc, 0, none⟩) hc).trans hBc
  by_cases hN : 0 < N
  · rw [hA hN] at e1
    exact chunk1_in F n h33 hro hn l Bs Bc b off N cap hcap hreach Kp hKs hKc J Jx (fun pre V hV => hJ pre V _ none hV ⟨rfl, rfl, rfl, Nat.le_refl _, fun _ _ _ => rfl⟩ (fun r e => by cases e)) hY W e1 e2 h0
  · obtain rfl : N = 0 := by omega
    exact (chunk1_nil_in F n h33 hro l Bs Bc cap A J W e1 h0).mono fun e W' ⟨he, hj⟩ => ⟨he, .inl ⟨[], rfl, hj⟩⟩
end Go.Proofs.Ytkaeoeebagndaaa.PRevokeTells
namespace Go.Proofs.Ytkaeoeebagndaaa.PRevokeTells
open Go.RowKit Go.Shelf Go.Proofs.YtkaeoeebagndaaaW.PrintWords Go.Proofs.YtkaeoeebagndaaaW.PrintLast Go.Proofs.YtkaeoeebagndaaaW.PrintMore
attribute [local go_sem] Oper.semAt_some max2_int min2_int errW_none errW_some
attribute [local go_sem high] u8_w cast_tmod eql_code neq_code eql_code_nil neq_code_nil eql_nil_code neq_nil_code
set_option linter.unusedVariables false
set_option linter.unusedSimpArgs false
theorem results2 {tmps : Array Value} {W : World} {B2 B3 : Nat} {v u : Value} (ht : tmps[2]?.getD undef = .pointer (some ⟨B2, 0, none⟩)) (hu : tmps[3]?.getD undef = .pointer (some ⟨B3, 0, none⟩))
    (h2 : Boxed W B2 22 v) (h3 : Boxed W B3 25 u) : (results Try.f16 tmps).run Try.prog W = .ok (.tuple #[v, u]) W := by
  have c2 := h2.cell
  have c3 := h3.cell
  have f2 := h2.frozen
  have f3 := h3.frozen
  simp [results, Try.results16, ht, hu, go_sem, c2, c3, f2, f3]
set_option maxRecDepth 100000 in
set_option maxHeartbeats 4000000 in
theorem parse_bad1 (k : Nat) (A0 : Option Addr) (c0 : Nat) (l0 : List Int) (fl : List (S48)) (er : Int) (w : World) (hr0 : Kd.C (Kd.int .u8) w A0 l0.length l0) (hc0 : l0.length ≤ c0) (h : tlv_Get.f k l0 = some (fl, some er)) :
    Calls Try.prog 16 #[.slice A0 l0.length c0] w fun e w' => e = .returned (.tuple #[.slice none 0 0, errW (some 2)]) ∧ Below w.heap.size w w' := by
  refine (callsIn_wide (n := 4)).1 ?_
  refine callsIn_of_wp_marks Try.func16 rfl trivial ?_ rfl
  simp only [Try.ntmps16, List.size_toArray, List.length_cons, List.length_nil, Nat.reduceAdd, Nat.reduceSub, Array.replicate_succ, Array.replicate_zero, List.push_toArray, List.append_toArray, List.nil_append, List.cons_append]
  gi_wp2_with (refine ⟨trivial, ?_⟩; gi_at_call 25; refine (callsIn_wide.2 (tlv_Get.calls k A0 c0 l0 fl (some er) _ (Kd.C_alloc (Kd.C_alloc hr0 _) _) hc0 h)).mono ?_; rintro e w1 ⟨v, rfl, hS, hb⟩; have b2 : Boxed w1 w.heap.size 22 (.slice none 0 0) := (hb.block _ (by simp; omega)).trans ((Boxed.new w 22 (.slice none 0 0)).alloc _); have b3 : Boxed w1 (w.heap.size + 1) 25 .nilIface := (hb.block _ (by simp)).trans (by have := Boxed.new (w.alloc (.cells #[.slice none 0 0] 22)) 25 .nilIface; rw [World.size_alloc] at this; exact this); have c2 := b2.cell; have f2 := b2.frozen; have c3 := b3.cell; have f3 := b3.frozen)
  have hB : Below w.heap.size w w1 := (((Below.refl _ w).alloc (Nat.le_refl _) _).alloc (by simp) _).trans (hb.mono (by simp; omega))
  have e2 := (b2.set (.slice none 0 0)).other (B' := w.heap.size + 1) (by omega) (.iface 29 (.int .i64 2))
  have e3 := (b3.other (B' := w.heap.size) (by omega) (.slice none 0 0)).set (.iface 29 (.int .i64 2))
  exact ⟨_, results2 rfl rfl e2 e3, rfl, (hB.setCell (Nat.le_refl _) _).setCell (by simp) _⟩
set_option maxRecDepth 100000 in
set_option maxHeartbeats 4000000 in
theorem parse_bad2 (k : Nat) (A0 : Option Addr) (c0 : Nat) (l0 : List Int) (fl : List (S48)) (w : World) (hr0 : Kd.C (Kd.int .u8) w A0 l0.length l0) (hc0 : l0.length ≤ c0) (h : tlv_Get.f k l0 = some (fl, none)) (hl : fl.length ≠ 1) :
    Calls Try.prog 16 #[.slice A0 l0.length c0] w fun e w' => e = .returned (.tuple #[.slice none 0 0, errW (some 2)]) ∧ Below w.heap.size w w' := by
  refine (callsIn_wide (n := 4)).1 ?_
  refine callsIn_of_wp_marks Try.func16 rfl trivial ?_ rfl
  simp only [Try.ntmps16, List.size_toArray, List.length_cons, List.length_nil, Nat.reduceAdd, Nat.reduceSub, Array.replicate_succ, Array.replicate_zero, List.push_toArray, List.append_toArray, List.nil_append, List.cons_append]
  have hl2 : ((fl.length : Int) != 1) = true := by simp; omega
  gi_wp2_with (refine ⟨trivial, ?_⟩; gi_at_call 25; refine (callsIn_wide.2 (tlv_Get.calls k A0 c0 l0 fl none _ (Kd.C_alloc (Kd.C_alloc hr0 _) _) hc0 h)).mono ?_; rintro e w1 ⟨v, rfl, hS, hb⟩; have b2 : Boxed w1 w.heap.size 22 (.slice none 0 0) := (hb.block _ (by simp; omega)).trans ((Boxed.new w 22 (.slice none 0 0)).alloc _); have b3 : Boxed w1 (w.heap.size + 1) 25 .nilIface := (hb.block _ (by simp)).trans (by have := Boxed.new (w.alloc (.cells #[.slice none 0 0] 22)) 25 .nilIface; rw [World.size_alloc] at this; exact this); have c2 := b2.cell; have f2 := b2.frozen; have c3 := b3.cell; have f3 := b3.frozen; obtain ⟨A, c, rfl, hlc, hC⟩ := Kd.S_reads hS)
  have hB : Below w.heap.size w w1 := (((Below.refl _ w).alloc (Nat.le_refl _) _).alloc (by simp) _).trans (hb.mono (by simp; omega))
  have e2 := (b2.set (.slice none 0 0)).other (B' := w.heap.size + 1) (by omega) (.iface 29 (.int .i64 2))
  have e3 := (b3.other (B' := w.heap.size) (by omega) (.slice none 0 0)).set (.iface 29 (.int .i64 2))
  exact ⟨_, results2 rfl rfl e2 e3, rfl, (hB.setCell (Nat.le_refl _) _).setCell (by simp) _⟩
set_option maxRecDepth 100000 in
set_option maxHeartbeats 4000000 in
theorem parse_bad3 (k : Nat) (A0 : Option Addr) (c0 : Nat) (l0 : List Int) (x : S48) (w : World) (hr0 : Kd.C (Kd.int .u8) w A0 l0.length l0) (hc0 : l0.length ≤ c0) (h : tlv_Get.f k l0 = some ([x], none)) (hl : x.f0 ≠ 1) :
    Calls Try.prog 16 #[.slice A0 l0.length c0] w fun e w' => e = .returned (.tuple #[.slice none 0 0, errW (some 2)]) ∧ Below w.heap.size w w' := by
  refine (callsIn_wide (n := 4)).1 ?_
  refine callsIn_of_wp_marks Try.func16 rfl trivial ?_ rfl
  simp only [Try.ntmps16, List.size_toArray, List.length_cons, List.length_nil, Nat.reduceAdd, Nat.reduceSub, Array.replicate_succ, Array.replicate_zero, List.push_toArray, List.append_toArray, List.nil_append, List.cons_append]
  have hl2 : (x.f0 != 1) = true := by simpa using hl
  gi_wp2_with (refine ⟨trivial, ?_⟩; gi_at_call 25; refine (callsIn_wide.2 (tlv_Get.calls k A0 c0 l0 [x] none _ (Kd.C_alloc (Kd.C_alloc hr0 _) _) hc0 h)).mono ?_; rintro e w1 ⟨v, rfl, hS, hb⟩; have b2 : Boxed w1 w.heap.size 22 (.slice none 0 0) := (hb.block _ (by simp; omega)).trans ((Boxed.new w 22 (.slice none 0 0)).alloc _); have b3 : Boxed w1 (w.heap.size + 1) 25 .nilIface := (hb.block _ (by simp)).trans (by have := Boxed.new (w.alloc (.cells #[.slice none 0 0] 22)) 25 .nilIface; rw [World.size_alloc] at this; exact this); have c2 := b2.cell; have f2 := b2.frozen; have c3 := b3.cell; have f3 := b3.frozen; obtain ⟨g, cp, rfl, hg1, hg2, _⟩ := Kd.S_form hS (by simp); obtain ⟨_, hlc, hC⟩ := Kd.S_reads' hS; obtain ⟨ad, A1, c1, eA, hx0, hx1, hc1, hCx⟩ := at_T48 hC 0 (by decide) (by simp); cases eA; replace hx0 : w1.cell? ⟨g, 0, none⟩ = some (.int .i64 x.f0) := hx0; replace hx1 : w1.cell? ⟨g, 1, none⟩ = some (.slice A1 x.f1.length c1) := hx1; replace hCx : (Kd.int .u8).C w1 A1 x.f1.length x.f1 := hCx)
  have hB : Below w.heap.size w w1 := (((Below.refl _ w).alloc (Nat.le_refl _) _).alloc (by simp) _).trans (hb.mono (by simp; omega))
  have e2 := (b2.set (.slice none 0 0)).other (B' := w.heap.size + 1) (by omega) (.iface 29 (.int .i64 2))
  have e3 := (b3.other (B' := w.heap.size) (by omega) (.slice none 0 0)).set (.iface 29 (.int .i64 2))
  exact ⟨_, results2 rfl rfl e2 e3, rfl, (hB.setCell (Nat.le_refl _) _).setCell (by simp) _⟩
set_option maxRecDepth 100000 in
set_option maxHeartbeats 4000000 in
theorem parse_bad4 (k : Nat) (A0 : Option Addr) (c0 : Nat) (l0 : List Int) (x : S48) (w : World) (hr0 : Kd.C (Kd.int .u8) w A0 l0.length l0) (hc0 : l0.length ≤ c0) (h : tlv_Get.f k l0 = some ([x], none)) (hl : x.f0 = 1) (hm : x.f1.length % 16 ≠ 0) :
    Calls Try.prog 16 #[.slice A0 l0.length c0] w fun e w' => e = .returned (.tuple #[.slice none 0 0, errW (some 2)]) ∧ Below w.heap.size w w' := by
  refine (callsIn_wide (n := 4)).1 ?_
  refine callsIn_of_wp_marks Try.func16 rfl trivial ?_ rfl
  simp only [Try.ntmps16, List.size_toArray, List.length_cons, List.length_nil, Nat.reduceAdd, Nat.reduceSub, Array.replicate_succ, Array.replicate_zero, List.push_toArray, List.append_toArray, List.nil_append, List.cons_append]
  have hl2 : (((x.f1.length : Int) % 16) != 0) = true := by simp; omega
  gi_wp2_with (refine ⟨trivial, ?_⟩; gi_at_call 25; refine (callsIn_wide.2 (tlv_Get.calls k A0 c0 l0 [x] none _ (Kd.C_alloc (Kd.C_alloc hr0 _) _) hc0 h)).mono ?_; rintro e w1 ⟨v, rfl, hS, hb⟩; have b2 : Boxed w1 w.heap.size 22 (.slice none 0 0) := (hb.block _ (by simp; omega)).trans ((Boxed.new w 22 (.slice none 0 0)).alloc _); have b3 : Boxed w1 (w.heap.size + 1) 25 .nilIface := (hb.block _ (by simp)).trans (by have := Boxed.new (w.alloc (.cells #[.slice none 0 0] 22)) 25 .nilIface; rw [World.size_alloc] at this; exact this); have c2 := b2.cell; have f2 := b2.frozen; have c3 := b3.cell; have f3 := b3.frozen; obtain ⟨g, cp, rfl, hg1, hg2, _⟩ := Kd.S_form hS (by simp); obtain ⟨_, hlc, hC⟩ := Kd.S_reads' hS; obtain ⟨ad, A1, c1, eA, hx0, hx1, hc1, hCx⟩ := at_T48 hC 0 (by decide) (by simp); cases eA; replace hx0 : w1.cell? ⟨g, 0, none⟩ = some (.int .i64 1) := (by rw [← hl]; exact hx0); replace hx1 : w1.cell? ⟨g, 1, none⟩ = some (.slice A1 x.f1.length c1) := hx1; replace hCx : (Kd.int .u8).C w1 A1 x.f1.length x.f1 := hCx)
  have hB : Below w.heap.size w w1 := (((Below.refl _ w).alloc (Nat.le_refl _) _).alloc (by simp) _).trans (hb.mono (by simp; omega))
  have e2 := (b2.set (.slice none 0 0)).other (B' := w.heap.size + 1) (by omega) (.iface 29 (.int .i64 2))
  have e3 := (b3.other (B' := w.heap.size) (by omega) (.slice none 0 0)).set (.iface 29 (.int .i64 2))
  exact ⟨_, results2 rfl rfl e2 e3, rfl, (hB.setCell (Nat.le_refl _) _).setCell (by simp) _⟩
end Go.Proofs.Ytkaeoeebagndaaa.PRevokeTells
namespace Go.Proofs.Ytkaeoeebagndaaa.PRevokeTells
open Go.RowKit Go.Shelf Go.Proofs.YtkaeoeebagndaaaW.PrintWords Go.Proofs.YtkaeoeebagndaaaW.PrintLast Go.Proofs.YtkaeoeebagndaaaW.PrintMore
attribute [local go_sem] Oper.semAt_some max2_int min2_int errW_none errW_some
attribute [local go_sem high] u8_w cast_tmod eql_code neq_code eql_code_nil neq_code_nil eql_nil_code neq_nil_code
set_option linter.unusedVariables false
set_option linter.unusedSimpArgs false
/-- row i of the bytes, or that it is none -/
def rowAt (k : Nat) (b : List Int) (i : Nat) : Option (Option (S43)) :=
  (tlv_Of.f k ((b.drop (16 * i)).take 8)).bind fun r => (tlv_Of.f k ((b.drop (16 * i + 8)).take 8)).bind fun q => some (if r.2 = none ∧ q.2 = none then some ⟨r.1, q.1⟩ else none)
def addR (o : Option (List (S43))) (x : Option (S43)) : Option (List (S43)) := match o, x with
  | some l, some y => some (l ++ [y])
  | _, _ => none
/-- the first n rows, or that one of them is none -/
def rowsAt (k : Nat) (b : List Int) : Nat → Option (Option (List (S43)))
  | 0 => some (some [])
  | n + 1 => (rowsAt k b n).bind fun o => (rowAt k b n).bind fun x => some (addR o x)
def revoke_Parse.f (k : Nat) (l0 : List Int) : Option (List (S43) × Option Int) :=
  (tlv_Get.f k l0).bind fun g => match g.2, g.1 with
    | none, [x] => if x.f0 = 1 ∧ x.f1.length % 16 = 0 then (if x.f1.length ≤ 100000 then
        (rowsAt k x.f1 (x.f1.length / 16)).bind fun o => match o with
          | none => some ([], some 2)
          | some out => (revoke_May.f k out).bind fun t => if t = true then some (out, none) else some ([], some 2)
        else none) else some ([], some 2)
    | _, _ => some ([], some 2)
theorem rowAt.mono (b : List Int) (i k : Nat) : LeO (rowAt k b i) (rowAt (k + 1) b i) :=
  LeO.bind (tlv_Of.mono _ _) (fun _ => LeO.bind (tlv_Of.mono _ _) (fun _ => LeO.refl _))
theorem rowsAt.mono (b : List Int) (k : Nat) : ∀ n, LeO (rowsAt k b n) (rowsAt (k + 1) b n)
  | 0 => LeO.refl _
  | n + 1 => LeO.bind (rowsAt.mono b k n) (fun o => LeO.bind (rowAt.mono b n k) (fun _ => LeO.refl _))
theorem revoke_Parse.mono : ∀ a0 k, LeO (revoke_Parse.f k a0) (revoke_Parse.f (k + 1) a0) := by
  intro a0 k
  refine LeO.bind (tlv_Get.mono _ _) (fun g => ?_)
  obtain ⟨l, e⟩ := g
  cases e with
  | some e => exact LeO.refl _
  | none =>
    match l with
    | [] => exact LeO.refl _
    | x :: y :: r => exact LeO.refl _
    | [x] =>
      show LeO (if x.f0 = 1 ∧ x.f1.length % 16 = 0 then _ else _) (if x.f0 = 1 ∧ x.f1.length % 16 = 0 then _ else _)
      by_cases h : x.f0 = 1 ∧ x.f1.length % 16 = 0
      · rw [if_pos h, if_pos h]
        by_cases h2 : x.f1.length ≤ 100000
        · rw [if_pos h2, if_pos h2]
          refine LeO.bind (rowsAt.mono _ _ _) (fun o => ?_)
          cases o with
          | none => exact LeO.refl _
          | some out => exact LeO.bind (revoke_May.mono _ _) (fun _ => LeO.refl _)
        · rw [if_neg h2, if_neg h2]
          exact LeO.refl _
      · rw [if_neg h, if_neg h]
        exact LeO.refl _
/-- every row tells something -/
theorem rows_all {k : Nat} {b : List Int} : ∀ (n : Nat) {o : Option (List (S43))}, rowsAt k b n = some o → ∀ i, i < n → ∃ x, rowAt k b i = some x
  | 0, _, _, i, hi => absurd hi (Nat.not_lt_zero i)
  | n + 1, o, h, i, hi => by
    obtain ⟨p, hp, h⟩ := Option.bind_eq_some_iff.1 h
    obtain ⟨x, hx, _⟩ := Option.bind_eq_some_iff.1 h
    rcases Nat.lt_succ_iff_lt_or_eq.1 hi with h1 | h1
    · exact rows_all n hp i h1
    · exact ⟨x, by rw [h1]; exact hx⟩
theorem rows_good {k : Nat} {b : List Int} {r : Nat → Option (S43)} : ∀ (n : Nat) (l : List (S43)), (∀ i, i < n → rowAt k b i = some (r i)) → l.map some = (List.range n).map r → rowsAt k b n = some (some l)
  | 0, l, _, hl => by
    have : l = [] := by simpa using hl
    subst this
    rfl
  | n + 1, l, hr, hl => by
    rw [List.range_succ, List.map_append] at hl
    obtain ⟨l1, l2, rfl, e1, e2⟩ := List.map_eq_append_iff.1 hl
    obtain ⟨y, rfl, e3⟩ : ∃ y, l2 = [y] ∧ some y = r n := by
      obtain ⟨y, l3, rfl, e3, e4⟩ := List.map_eq_cons_iff.1 (show l2.map some = [r n] from e2)
      rw [List.map_eq_nil_iff] at e4
      subst e4
      exact ⟨y, rfl, e3⟩
    have ih := rows_good n l1 (fun i hi => hr i (by omega)) e1
    show (rowsAt k b n).bind _ = _
    rw [ih]
    show (rowAt k b n).bind _ = _
    rw [hr n (by omega), ← e3]
    rfl
theorem rows_def {k : Nat} {b : List Int} : ∀ (n : Nat), (∀ i, i < n → ∃ x, rowAt k b i = some x) → ∃ o, rowsAt k b n = some o
  | 0, _ => ⟨_, rfl⟩
  | n + 1, h => by
    obtain ⟨o, ho⟩ := rows_def n (fun i hi => h i (by omega))
    obtain ⟨x, hx⟩ := h n (by omega)
    exact ⟨addR o x, by show (rowsAt k b n).bind _ = _; rw [ho]; show (rowAt k b n).bind _ = _; rw [hx]; rfl⟩
theorem rows_none {k : Nat} {b : List Int} {r : Nat → Option (S43)} {i : Nat} (hi : r i = none) : ∀ (n : Nat), (∀ i, i < n → rowAt k b i = some (r i)) → i < n → rowsAt k b n = some none
  | 0, _, h => absurd h (Nat.not_lt_zero i)
  | n + 1, hr, h => by
    obtain ⟨o, ho⟩ : ∃ o, rowsAt k b n = some o := rows_def n (fun j hj => ⟨_, hr j (by omega)⟩)
    show (rowsAt k b n).bind _ = _
    by_cases h1 : i < n
    · rw [rows_none hi n (fun j hj => hr j (by omega)) h1]
      show (rowAt k b n).bind _ = _
      rw [hr n (by omega)]
      rfl
    · obtain rfl : i = n := by omega
      rw [ho]
      show (rowAt k b i).bind _ = _
      rw [hr i (by omega), hi]
      cases o <;> rfl
/-- what the rows are in memory -/
def rcells (l : List (S43)) : List Value := l.flatMap fun y => [.int .i64 y.f0, .int .i64 y.f1]
theorem rcells_snoc (l : List (S43)) (y : S43) : rcells (l ++ [y]) = rcells l ++ [.int .i64 y.f0, .int .i64 y.f1] := by simp [rcells]
theorem rcells_reps (w : World) (base : Nat) (ok : Nat → Prop) : ∀ l : List (S43), Reps (k43.M w base ok) 2 l (rcells l) := by
  intro l
  suffices h : ∀ (m l : List (S43)), Reps (k43.M w base ok) 2 m (rcells m) → Reps (k43.M w base ok) 2 (m ++ l) (rcells (m ++ l)) from h [] l (Reps.none _ _)
  intro m l
  induction l generalizing m with
  | nil => intro h; rw [List.append_nil]; exact h
  | cons y r ih =>
    intro h
    have := ih (m ++ [y]) (by rw [rcells_snoc]; exact h.snoc (show k43.M w base ok y _ from ⟨_, _, rfl, rfl, rfl⟩) rfl)
    rw [List.append_assoc] at this
    exact this
theorem rows_R {w : World} {base : Nat} {v : Value} {l : List (S43)} (h : w.ownsRow base 43 2 v l.length (rcells l)) : Kd.R k43 43 w base (fun _ => True) v l :=
  ⟨fun _ _ => trivial, rcells l, h, rcells_reps w base _ l⟩
theorem keepsO {W W' : World} (hb : Below W.heap.size W W') : KeepsOthers W W' := ⟨hb.size, fun k o hk ho => (hb.block k (Array.getElem?_eq_some_iff.1 hk).1).trans hk⟩
/-- a part of bytes in memory -/
theorem C_part {w : World} {A : Option Addr} {b o n : Nat} {xs : List Int} (h : (Kd.int .u8).C w A n xs) (hA : A = some ⟨b, o, none⟩) (i m : Nat) (hi : i + m ≤ n) : (Kd.int .u8).C w (some ⟨b, o + i, none⟩) ((xs.drop i).take m).length ((xs.drop i).take m) := by
  obtain ⟨h1, h2, h3⟩ := h
  have hl : ((xs.drop i).take m).length = m := by rw [List.length_take, List.length_drop]; omega
  refine ⟨rfl, by rw [hl]; omega, fun hp => ⟨_, rfl, fun j p hj => ?_⟩⟩
  rw [hl] at hp
  obtain ⟨ad, ea, hc⟩ := h3 (by omega)
  rw [hA] at ea
  injection ea with ea
  subst ea
  rw [List.getElem?_take] at hj
  split at hj
  · rw [List.getElem?_drop] at hj
    obtain ⟨c, q1, q2, q3⟩ := hc (i + j) p hj
    refine ⟨c, q1, q2, fun i2 u hu => ?_⟩
    have := q3 i2 u hu
    have e1 : ∀ x : Nat, (⟨b, o, none⟩ : Addr).add x = ⟨b, o + x, none⟩ := fun x => by unfold Addr.add; split <;> simp_all
    have e2 : ∀ x : Nat, (⟨b, o + i, none⟩ : Addr).add x = ⟨b, o + i + x, none⟩ := fun x => by unfold Addr.add; split <;> simp_all
    rw [e1] at this
    rw [e2, ← this]
    congr 2
    have : (Kd.int .u8).sz = 1 := rfl
    rw [this]
    omega
  · cases hj
end Go.Proofs.Ytkaeoeebagndaaa.PRevokeTells
namespace Go.Proofs.Ytkaeoeebagndaaa.PRevokeTells
open Go.RowKit Go.Shelf Go.Proofs.YtkaeoeebagndaaaW.PrintWords Go.Proofs.YtkaeoeebagndaaaW.PrintLast Go.Proofs.YtkaeoeebagndaaaW.PrintMore
attribute [local go_sem] Oper.semAt_some max2_int min2_int errW_none errW_some
attribute [local go_sem high] u8_w cast_tmod eql_code neq_code eql_code_nil neq_code_nil eql_nil_code neq_nil_code
set_option linter.unusedVariables false
set_option linter.unusedSimpArgs false
/-- the rows told, as far as they are good -/
def goods {N : Nat} (r : Nat → Option (S43)) (pre : List (Ix N)) : List (S43) := pre.filterMap fun i => r i.1
theorem goods_snoc {N : Nat} (r : Nat → Option (S43)) (pre : List (Ix N)) (i : Ix N) (y : S43) (h : r i.1 = some y) : goods r (pre ++ [i]) = goods r pre ++ [y] := by simp [goods, h]
theorem goods_len {N : Nat} (r : Nat → Option (S43)) (pre : List (Ix N)) : (goods r pre).length ≤ pre.length := List.length_filterMap_le _ _
theorem info_rv : (Try.prog.info? 43).map (fun i => (i.zero, i.size, i.bytes)) = some (some (.agg #[(.int .i64 0), (.int .i64 0)]), 2, 16) := by kernel_rfl
theorem ownsRow_set {W : World} {B : Nat} {t e : TypeId} {u v' v : Value} {base size k : Nat} {xs : List Value} (hb : Boxed W B t u) (hte : t ≠ e) (h : W.ownsRow base e size v k xs) : (W.setCell ⟨B, 0, none⟩ v').ownsRow base e size v k xs := h.kept (grownBy_setCell' W B v') (.inr (hb.not_row hte h).symm)
theorem own_base {W : World} {e : TypeId} {v : Value} {b b' size k : Nat} {xs : List Value} (h : W.ownsRow b e size v k xs) (hb : b' ≤ b) : W.ownsRow b' e size v k xs := by
  refine ⟨h.1, ?_⟩
  rcases h.2 with q | ⟨g, cap, cur, e1, h1, q⟩
  · exact .inl q
  · exact .inr ⟨g, cap, cur, e1, Nat.le_trans hb h1, q⟩
theorem news2 (W : World) (T : TypeId) (x y : Value) : ∀ (j : Nat) (u : Value), [x, y][j]? = some u → (W.alloc (.cells #[x, y] T)).cell? ((⟨W.heap.size, 0, none⟩ : Addr).add j) = some u
  | 0, u, hj => by cases hj; exact World.cell?_alloc_new W _ T 0
  | 1, u, hj => by cases hj; exact World.cell?_alloc_new W _ T 1
  | j + 2, u, hj => by simp at hj
set_option maxRecDepth 100000 in
set_option maxHeartbeats 8000000 in
theorem parse_good (k : Nat) (A0 : Option Addr) (c0 : Nat) (l0 : List Int) (x : S48) (w : World) (hr0 : Kd.C (Kd.int .u8) w A0 l0.length l0) (hc0 : l0.length ≤ c0) (h : tlv_Get.f k l0 = some ([x], none)) (hl : x.f0 = 1) (N : Nat) (hN : x.f1.length = 16 * N) (hN2 : N ≤ 6250)
    (r : Nat → Option (S43)) (hr : ∀ i, i < N → rowAt k x.f1 i = some (r i)) (r1 : List (S43)) (r2 : Option Int)
    (hbad : (∃ i, i < N ∧ r i = none) → r1 = [] ∧ r2 = some 2) (hgood : ∀ out : List (S43), out.map some = (List.range N).map r → ∃ t, revoke_May.f k out = some t ∧ (t = true → r1 = out ∧ r2 = none) ∧ (t = false → r1 = [] ∧ r2 = some 2)) :
    Calls Try.prog 16 #[.slice A0 l0.length c0] w fun e w' => ∃ v0_ : Value, e = .returned (.tuple #[v0_, errW r2]) ∧ Kd.R k43 43 w' w.heap.size (fun _ => True) v0_ r1 ∧ Below w.heap.size w w' := by
  obtain ⟨i0, hi, hz0, hz1, hz2⟩ := info_parts info_rv
  have hl2 : (((x.f1.length : Int) % 16) != 0) = false := by simp; omega
  refine (callsIn_wide (n := 6)).1 ?_
  refine callsIn_of_wp_marks Try.func16 rfl trivial ?_ rfl
  simp only [Try.ntmps16, List.size_toArray, List.length_cons, List.length_nil, Nat.reduceAdd, Nat.reduceSub, Array.replicate_succ, Array.replicate_zero, List.push_toArray, List.append_toArray, List.nil_append, List.cons_append]
  gi_wp2_with (first
    | (refine ⟨trivial, ?_⟩; gi_at_call 25; refine (callsIn_wide.2 (tlv_Get.calls k A0 c0 l0 [x] none _ (Kd.C_alloc (Kd.C_alloc hr0 _) _) hc0 h)).mono ?_; rintro e w1 ⟨v, rfl, hS, hb⟩; have b2 : Boxed w1 w.heap.size 22 (.slice none 0 0) := (hb.block _ (by simp; omega)).trans ((Boxed.new w 22 (.slice none 0 0)).alloc _); have b3 : Boxed w1 (w.heap.size + 1) 25 .nilIface := (hb.block _ (by simp)).trans (by have := Boxed.new (w.alloc (.cells #[.slice none 0 0] 22)) 25 .nilIface; rw [World.size_alloc] at this; exact this); have c2 := b2.cell; have f2 := b2.frozen; have c3 := b3.cell; have f3 := b3.frozen; obtain ⟨g, cp, rfl, hg1, hg2, _⟩ := Kd.S_form hS (by simp); obtain ⟨cs_, hcl, hM, hcs⟩ := Kd.S_get hS z48 0 (by decide) (by simp); obtain ⟨vb, rfl, hvb⟩ := k48_openM hM; obtain ⟨A1, c1, rfl, hc1, hCx⟩ := Kd.R_reads (show (Kd.int .u8).R 5 w1 _ _ vb x.f1 from hvb); have hx0 : w1.cell? ⟨g, 0, none⟩ = some (.int .i64 1) := (by rw [← hl]; exact hcs 0 _ rfl); have hx1 : w1.cell? ⟨g, 1, none⟩ = some (.slice A1 x.f1.length c1) := hcs 1 _ rfl; have hx2 : (w1.alloc (.cells #[.slice none 0 0] 22)).cell? ⟨g, 1, none⟩ = some (.slice A1 x.f1.length c1) := (World.cell?_alloc_lt _ _ _ hg2).trans hx1; have hA1 : 0 < N → ∃ b, A1 = some ⟨b, 0, none⟩ := (fun hp => by obtain ⟨q, qc, hq, _⟩ := Kd.R_form (show (Kd.int .u8).R 5 w1 _ _ _ x.f1 from hvb) (by omega); injection hq with hq1 _ _; exact ⟨q, hq1⟩))
    | (refine ⟨trivial, ?_⟩; gi_at_call 26; refine (chunk_in Fence.wide _ trivial rfl A1 (16 * N) c1 _).mono ?_; rintro e w2 ⟨rfl, rfl⟩))
  have hBL : Below w1.heap.size w1 (((w1.alloc (.cells #[.slice none 0 0] 22)).alloc (.cells #[.slice A1 (16 * N) c1] 32)).alloc (.cells #[.int .i64 16] 3)) := (((Below.refl _ w1).alloc (Nat.le_refl _) _).alloc (by simp) _).alloc (by simp; omega) _
  have bO := ((Boxed.new w1 22 (.slice none 0 0)).alloc (.cells #[.slice A1 (16 * N) c1] 32)).alloc (.cells #[.int .i64 16] 3)
  have bS := (Boxed.new (w1.alloc (.cells #[.slice none 0 0] 22)) 32 (.slice A1 (16 * N) c1)).alloc (.cells #[.int .i64 16] 3)
  have bC := Boxed.new ((w1.alloc (.cells #[.slice none 0 0] 22)).alloc (.cells #[.slice A1 (16 * N) c1] 32)) 3 (.int .i64 16)
  have hsz : (((w1.alloc (.cells #[.slice none 0 0] 22)).alloc (.cells #[.slice A1 (16 * N) c1] 32)).alloc (.cells #[.int .i64 16] 3)).heap.size = w1.heap.size + 3 := by simp
  rw [World.size_alloc] at bS
  rw [World.size_alloc, World.size_alloc] at bC
  obtain ⟨wL, hwL⟩ : ∃ W0, (((w1.alloc (.cells #[.slice none 0 0] 22)).alloc (.cells #[.slice A1 (16 * N) c1] 32)).alloc (.cells #[.int .i64 16] 3)) = W0 := ⟨_, rfl⟩
  rw [hwL] at hBL bO bS bC hsz ⊢
  clear hwL hx2
  obtain ⟨b, hAb⟩ : ∃ b, 0 < N → A1 = some ⟨b, 0, none⟩ := by
    by_cases hp : 0 < N
    · obtain ⟨b, e⟩ := hA1 hp
      exact ⟨b, fun _ => e⟩
    · exact ⟨0, fun q => absurd q hp⟩
  have hB0 : Below w.heap.size w w1 := (((Below.refl _ w).alloc (Nat.le_refl _) _).alloc (by simp) _).trans (hb.mono (by simp; omega))
  have hw1 : w.heap.size + 2 ≤ w1.heap.size := by have := hb.size; simp at this; omega
  refine wpIn_rangeFunc_ownG rfl (by omega) (gf := 33) (lb := #[.pointer (some ⟨w1.heap.size + 1, 0, none⟩), .pointer (some ⟨w1.heap.size + 1 + 1, 0, none⟩)]) rfl trivial (enters_of Try.func33 (by kernel_rfl) rfl)
    (chunk_stops Fence.wide _ trivial rfl (by omega) (w1.heap.size + 1) (w1.heap.size + 1 + 1) b 0 N c1 A1 hAb (by omega) (by omega) wL (fun W W' => Below w1.heap.size W W' ∧ W'.heap[w1.heap.size + 1]? = W.heap[w1.heap.size + 1]? ∧ W'.heap[w1.heap.size + 1 + 1]? = W.heap[w1.heap.size + 1 + 1]?)
      (fun V V' hk => World.cell?_of_block (a := ⟨w1.heap.size + 1, 0, none⟩) hk.2.1) (fun V V' hk => World.cell?_of_block (a := ⟨w1.heap.size + 1 + 1, 0, none⟩) hk.2.2) (by omega) (by omega) bS.cell bC.cell)
    (fun h k => ⟨h.1.trans k.1, k.2.1.trans h.2.1, k.2.2.trans h.2.2⟩)
    (fun W l o o' hl hk e1 e2 => ⟨belowK_b (w := wL) (by omega) W l o o' hl hk e1 e2, World.putObj_heap_other (by omega), World.putObj_heap_other (by omega)⟩) (Below.refl _ _) (fun _ => rfl)
    (fun pre W => (∃ v, Boxed W w1.heap.size 22 v ∧ W.ownsRow w1.heap.size 43 2 v (goods r pre).length (rcells (goods r pre)) ∧ (goods r pre).map some = pre.map fun i => r i.1) ∧ (Boxed W (w1.heap.size + 1) 32 (.slice A1 (16 * N) c1) ∧ (Boxed W (w1.heap.size + 1 + 1) 3 (.int .i64 16) ∧ Below w1.heap.size w1 W)))
    (fun c pre W => c = .ret ∧ (∃ i, i ∈ pre ∧ r i.1 = none) ∧ Boxed W w.heap.size 22 (.slice none 0 0) ∧ Boxed W (w.heap.size + 1) 25 (.iface 29 (.int .i64 2)) ∧ Below w.heap.size w W)
    (OwnFrom.and (Own.from (holdsRow_own w1.heap.size w1.heap.size 22 43 2 (fun pre => (goods r pre).length) (fun pre => rcells (goods r pre)) (fun pre v => (goods r pre).map some = pre.map fun i => r i.1)) _)
      (OwnFrom.and (Own.from (boxed_own _ _ (fun _ => .slice A1 (16 * N) c1)) _) (OwnFrom.and (Own.from (boxed_own _ _ (fun _ => .int .i64 16)) _) (ownFrom_below (Nat.le_refl _) (by omega)))))
    (fun c s X Y row hs hg hrow => ⟨hs.1, hs.2.1, hs.2.2.1.kept hg (fun q => by have := (hrow _ q.symm).1; omega), hs.2.2.2.1.kept hg (fun q => by have := (hrow _ q.symm).1; omega), hs.2.2.2.2.grown hg hs.2.2.2.2.size (fun k q => by have := (hrow _ q).1; omega)⟩)
    ⟨⟨_, bO, World.ownsRow_nil _ _ _ _, rfl⟩, bS, bC, hBL⟩
    ?a1 ?assign ?body ?done ?stop
  case assign =>
    intro l y W K hK
    gi_wp2
    exact hK
  case body =>
    rintro l pre i W ⟨⟨v, hv, hrow, hG⟩, hbs, hbc, hBW⟩ hlt
    have b2W : Boxed W w.heap.size 22 (.slice none 0 0) := (hBW.block _ (by omega)).trans b2
    have b3W : Boxed W (w.heap.size + 1) 25 .nilIface := (hBW.block _ (by omega)).trans b3
    obtain ⟨⟨a1, er1⟩, hs1, hq⟩ := Option.bind_eq_some_iff.1 (hr i.1 i.2)
    obtain ⟨⟨a2, er2⟩, hs2, hq⟩ := Option.bind_eq_some_iff.1 hq
    have hq := Option.some.inj hq
    have hi2 := i.2
    have hA := hAb (by omega)
    have KO1 : ∀ V, Below W.heap.size W V → Calls Try.prog 27 #[.slice (some ⟨b, 16 * i.1, none⟩) 8 16] V fun e V' => e = .returned (.tuple #[.int .i64 a1, errW er1]) ∧ Drawn0 V V' := fun V hV => by
      have hC := C_part (Kd.C_below hCx (hBW.trans (hV.mono hBW.size))) hA (16 * i.1) 8 (by omega)
      have hn : ((x.f1.drop (16 * i.1)).take 8).length = 8 := by rw [List.length_take, List.length_drop]; omega
      have h := tlv_Of.calls k (some ⟨b, 0 + 16 * i.1, none⟩) 16 _ a1 er1 V hC (by rw [hn]; decide) hs1
      rw [hn, Nat.zero_add] at h
      exact h
    have KO2 : ∀ V, Below W.heap.size W V → Calls Try.prog 27 #[.slice (some ⟨b, 16 * i.1 + 8, none⟩) 8 8] V fun e V' => e = .returned (.tuple #[.int .i64 a2, errW er2]) ∧ Drawn0 V V' := fun V hV => by
      have hC := C_part (Kd.C_below hCx (hBW.trans (hV.mono hBW.size))) hA (16 * i.1 + 8) 8 (by omega)
      have hn : ((x.f1.drop (16 * i.1 + 8)).take 8).length = 8 := by rw [List.length_take, List.length_drop]; omega
      have h := tlv_Of.calls k (some ⟨b, 0 + (16 * i.1 + 8), none⟩) 8 _ a2 er2 V hC (by rw [hn]; decide) hs2
      rw [hn, Nat.zero_add] at h
      exact h
    clear hs1 hs2
    cases er1 with
    | some e1 =>
      have hri : r i.1 = none := by rw [← hq]; exact if_neg (fun q => by cases q.1)
      gi_wp2_with (first | (refine ⟨trivial, ?_⟩; gi_at_call 27; refine (CallsIn.inRound l (callsIn_wide.2 (KO1 _ (Below.refl _ _)))).mono ?_; clear KO1; rintro e W2 ⟨rfl, hd1⟩) | (refine ⟨trivial, ?_⟩; gi_at_call 27; refine (CallsIn.inRound l (callsIn_wide.2 (KO2 _ hd1.below))).mono ?_; clear KO2; rintro e W3 ⟨rfl, hd2⟩; have hbd : Below W.heap.size W W3 := hd1.below.trans (hd2.below.mono hd1.below.size); have v6 : Boxed W3 w1.heap.size 22 v := (hbd.block _ hv.lt).trans hv; have c6 := v6.cell; have f6 := v6.frozen; have b2X : Boxed W3 w.heap.size 22 (.slice none 0 0) := (hbd.block _ b2W.lt).trans b2W; have c2X := b2X.cell; have f2X := b2X.frozen; have b3X : Boxed W3 (w.heap.size + 1) 25 .nilIface := (hbd.block _ b3W.lt).trans b3W; have c3X := b3X.cell; have f3X := b3X.frozen))
      exact ⟨((keepsO hbd).trans ((KeepsOthers.setCell _ _ _).trans (KeepsOthers.setCell _ _ _))).from _, rfl, ⟨i, by simp, hri⟩, (b2X.set _).other (B' := w.heap.size + 1) (by omega) _, (b3X.other (B' := w.heap.size) (by omega) _).set _, ((hB0.trans ((hBW.trans (hbd.mono hBW.size)).mono hB0.size)).setCell (Nat.le_refl _) _).setCell (by simp) _⟩
    | none =>
      cases er2 with
      | some e2 =>
        have hri : r i.1 = none := by rw [← hq]; exact if_neg (fun q => by cases q.2)
        gi_wp2_with (first | (refine ⟨trivial, ?_⟩; gi_at_call 27; refine (CallsIn.inRound l (callsIn_wide.2 (KO1 _ (Below.refl _ _)))).mono ?_; clear KO1; rintro e W2 ⟨rfl, hd1⟩) | (refine ⟨trivial, ?_⟩; gi_at_call 27; refine (CallsIn.inRound l (callsIn_wide.2 (KO2 _ hd1.below))).mono ?_; clear KO2; rintro e W3 ⟨rfl, hd2⟩; have hbd : Below W.heap.size W W3 := hd1.below.trans (hd2.below.mono hd1.below.size); have v6 : Boxed W3 w1.heap.size 22 v := (hbd.block _ hv.lt).trans hv; have c6 := v6.cell; have f6 := v6.frozen; have b2X : Boxed W3 w.heap.size 22 (.slice none 0 0) := (hbd.block _ b2W.lt).trans b2W; have c2X := b2X.cell; have f2X := b2X.frozen; have b3X : Boxed W3 (w.heap.size + 1) 25 .nilIface := (hbd.block _ b3W.lt).trans b3W; have c3X := b3X.cell; have f3X := b3X.frozen))
        exact ⟨((keepsO hbd).trans ((KeepsOthers.setCell _ _ _).trans (KeepsOthers.setCell _ _ _))).from _, rfl, ⟨i, by simp, hri⟩, (b2X.set _).other (B' := w.heap.size + 1) (by omega) _, (b3X.other (B' := w.heap.size) (by omega) _).set _, ((hB0.trans ((hBW.trans (hbd.mono hBW.size)).mono hB0.size)).setCell (Nat.le_refl _) _).setCell (by simp) _⟩
      | none =>
        have hri : r i.1 = some ⟨a1, a2⟩ := by rw [← hq]; exact if_pos ⟨rfl, rfl⟩
        gi_wp2_with (first | (refine ⟨trivial, ?_⟩; gi_at_call 27; refine (CallsIn.inRound l (callsIn_wide.2 (KO1 _ (Below.refl _ _)))).mono ?_; clear KO1; rintro e W2 ⟨rfl, hd1⟩) | (refine ⟨trivial, ?_⟩; gi_at_call 27; refine (CallsIn.inRound l (callsIn_wide.2 (KO2 _ hd1.below))).mono ?_; clear KO2; rintro e W3 ⟨rfl, hd2⟩; have hbd : Below W.heap.size W W3 := hd1.below.trans (hd2.below.mono hd1.below.size); have v6 : Boxed W3 w1.heap.size 22 v := (hbd.block _ hv.lt).trans hv; have c6 := v6.cell; have f6 := v6.frozen; have b2X : Boxed W3 w.heap.size 22 (.slice none 0 0) := (hbd.block _ b2W.lt).trans b2W; have c2X := b2X.cell; have f2X := b2X.frozen; have b3X : Boxed W3 (w.heap.size + 1) 25 .nilIface := (hbd.block _ b3W.lt).trans b3W; have c3X := b3X.cell; have f3X := b3X.frozen) | (gi_at_builtin; refine wpListIn_append_own _ rfl _ _ 22 rfl w1.heap.size 43 i0 (.agg #[(.int .i64 0), (.int .i64 0)]) 2 16 Try.underlying22 hi hz0 hz1 hz2 rfl (by decide) _ _ _ rfl ((own_move hrow (fun k hk => hbd.block k (own_lt hrow k hk))).alloc _) ⟨W3.heap.size, 0, none⟩ 1 1 [.int .i64 a1, .int .i64 a2] rfl rfl (news2 _ _ _ _) (by simp [Value.oneCell']) (by have := goods_len r pre; unfold maxLen; omega) (by have := goods_len r pre; omega) (by have := hBW.size; have := hbd.size; simp; omega) ?_; intro v' w4 hown' hgrow _; obtain ⟨g', cap', rfl⟩ := ownsRow_succ hown'; obtain ⟨hv1, hv2, hr2, hk2, hb2⟩ := v6.appended (by decide) (own_move hrow (fun k hk => hbd.block k (own_lt hrow k hk))) (Nat.le_trans hBW.size hbd.size) (Nat.le_refl _) hown' hgrow; have hc1_ := hv1.cell; have hf1_ := hv1.frozen))
        have hrow3 := own_move hrow (fun k hk => hbd.block k (own_lt hrow k hk))
        have hbs3 : Boxed W3 (w1.heap.size + 1) 32 (.slice A1 (16 * N) c1) := (hbd.block _ hbs.lt).trans hbs
        have hbc3 : Boxed W3 (w1.heap.size + 1 + 1) 3 (.int .i64 16) := (hbd.block _ hbc.lt).trans hbc
        have hbs5 := ((hbs3.alloc _).kept hgrow (hbs3.not_row (by decide) hrow3)).other (B' := w1.heap.size) (by omega) (.slice (some ⟨g', 0, none⟩) ((goods r pre).length + 1) cap')
        have hbc5 := ((hbc3.alloc _).kept hgrow (hbc3.not_row (by decide) hrow3)).other (B' := w1.heap.size) (by omega) (.slice (some ⟨g', 0, none⟩) ((goods r pre).length + 1) cap')
        refine ⟨((keepsO hbd).trans hk2).from _, ⟨(hbd.mono hBW.size).trans hb2, (Eq.trans hbs5 (Eq.symm hbs)), (Eq.trans hbc5 (Eq.symm hbc))⟩, ⟨_, hv2, ?_, ?_⟩, hbs5, hbc5, hBW.trans ((hbd.mono hBW.size).trans hb2)⟩
        · rw [goods_snoc r pre i _ hri, rcells_snoc, List.length_append]
          exact hr2
        · rw [goods_snoc r pre i _ hri, List.map_append, List.map_append, hG, List.map_singleton, List.map_singleton, hri]
  case done =>
    rintro D ys W hD hS ⟨⟨v, hv, hrow, hG⟩, hbs, hbc, hBW⟩ hK
    have b2W : Boxed W w.heap.size 22 (.slice none 0 0) := (hBW.block _ (by omega)).trans b2
    have b3W : Boxed W (w.heap.size + 1) 25 .nilIface := (hBW.block _ (by omega)).trans b3
    have hSW := hBW.size
    obtain ⟨Av, cv, rfl, hcv, hCv⟩ := Kd.R_reads (rows_R hrow)
    obtain ⟨t, hm, ht1, ht2⟩ := hgood (goods r ys) (by rw [hG, ← hS, List.map_map]; rfl)
    have cv_ := hv.cell
    have fv_ := hv.frozen
    cases t with
    | true =>
      obtain ⟨q1, q2⟩ := ht1 rfl
      subst q1
      subst q2
      gi_wp2_with (refine ⟨trivial, ?_⟩; gi_at_call 13; refine (callsIn_wide.2 (revoke_May.calls k Av cv _ true _ hCv hcv hm)).mono ?_; rintro e W2 ⟨rfl, hbd⟩; have b2X : Boxed W2 w.heap.size 22 (.slice none 0 0) := (hbd.block _ b2W.lt).trans b2W; have c2X := b2X.cell; have f2X := b2X.frozen; have b3X : Boxed W2 (w.heap.size + 1) 25 .nilIface := (hbd.block _ b3W.lt).trans b3W; have c3X := b3X.cell; have f3X := b3X.frozen; have v6 : Boxed W2 w1.heap.size 22 _ := (hbd.block _ hv.lt).trans hv; have c6 := v6.cell)
      have hK' := ((keepsO hbd).trans ((KeepsOthers.setCell W2 ⟨w.heap.size, 0, none⟩ (.slice Av (goods r ys).length cv)).trans (KeepsOthers.setCell _ ⟨w.heap.size + 1, 0, none⟩ .nilIface))).same D _ hK rfl
      refine ⟨by simp, .inl ⟨_, _, rfl, run_takeDeferred hK', ?_⟩⟩
      have e2 := ((b2X.set (.slice Av (goods r ys).length cv)).other (B' := w.heap.size + 1) (by omega) .nilIface).kept (grownBy_putObj' _ D (.deferred none)) (fun e => by cases e; omega)
      have e3 := (((b3X.other (B' := w.heap.size) (by omega) (.slice Av (goods r ys).length cv)).set .nilIface)).kept (grownBy_putObj' _ D (.deferred none)) (fun e => by cases e; omega)
      have hB9 := ((((hB0.trans ((hBW.trans (hbd.mono hBW.size)).mono hB0.size)).setCell (p := ⟨w.heap.size, 0, none⟩) (Nat.le_refl _) (.slice Av (goods r ys).length cv)).setCell (p := ⟨w.heap.size + 1, 0, none⟩) (by simp) .nilIface)).trans (belowK_b (w := wL) (by omega) _ D _ (.deferred none) hD hK' rfl rfl)
      exact ⟨_, results2 rfl rfl e2 e3, _, rfl, rows_R (own_base (ownsRow_putObj (ownsRow_set (b3X.other (B' := w.heap.size) (by omega) _) (by decide) (ownsRow_set b2X (by decide) (own_move hrow (fun k hk => hbd.block k (own_lt hrow k hk))))) (.deferred none) hK' rfl) (by omega)), hB9⟩
    | false =>
      obtain ⟨q1, q2⟩ := ht2 rfl
      subst q1
      subst q2
      gi_wp2_with (refine ⟨trivial, ?_⟩; gi_at_call 13; refine (callsIn_wide.2 (revoke_May.calls k Av cv _ false _ hCv hcv hm)).mono ?_; rintro e W2 ⟨rfl, hbd⟩; have b2X : Boxed W2 w.heap.size 22 (.slice none 0 0) := (hbd.block _ b2W.lt).trans b2W; have c2X := b2X.cell; have f2X := b2X.frozen; have b3X : Boxed W2 (w.heap.size + 1) 25 .nilIface := (hbd.block _ b3W.lt).trans b3W; have c3X := b3X.cell; have f3X := b3X.frozen; have v6 : Boxed W2 w1.heap.size 22 _ := (hbd.block _ hv.lt).trans hv; have c6 := v6.cell)
      have hK' := ((keepsO hbd).trans ((KeepsOthers.setCell W2 ⟨w.heap.size, 0, none⟩ (.slice none 0 0)).trans (KeepsOthers.setCell _ ⟨w.heap.size + 1, 0, none⟩ (.iface 29 (.int .i64 2))))).same D _ hK rfl
      refine ⟨by simp, .inl ⟨_, _, rfl, run_takeDeferred hK', ?_⟩⟩
      have e2 := ((b2X.set (.slice none 0 0)).other (B' := w.heap.size + 1) (by omega) (.iface 29 (.int .i64 2))).kept (grownBy_putObj' _ D (.deferred none)) (fun e => by cases e; omega)
      have e3 := (((b3X.other (B' := w.heap.size) (by omega) (.slice none 0 0)).set (.iface 29 (.int .i64 2)))).kept (grownBy_putObj' _ D (.deferred none)) (fun e => by cases e; omega)
      have hB9 := ((((hB0.trans ((hBW.trans (hbd.mono hBW.size)).mono hB0.size)).setCell (p := ⟨w.heap.size, 0, none⟩) (Nat.le_refl _) (.slice none 0 0)).setCell (p := ⟨w.heap.size + 1, 0, none⟩) (by simp) (.iface 29 (.int .i64 2)))).trans (belowK_b (w := wL) (by omega) _ D _ (.deferred none) hD hK' rfl rfl)
      exact ⟨_, results2 rfl rfl e2 e3, _, rfl, rows_R (World.ownsRow_nil _ _ _ _), hB9⟩
  case stop =>
    rintro D c pre W hD hSp ⟨rfl, ⟨i, _, hri⟩, h2, h3, hb'⟩ hK
    obtain ⟨q1, q2⟩ := hbad ⟨i.1, i.2, hri⟩
    subst q1
    subst q2
    gi_wp2
    refine ⟨by simp, .inl ⟨_, _, rfl, run_takeDeferred hK, ?_⟩⟩
    exact ⟨_, results2 rfl rfl (h2.kept (grownBy_putObj' _ D (.deferred none)) (fun e => by cases e; omega)) (h3.kept (grownBy_putObj' _ D (.deferred none)) (fun e => by cases e; omega)), _, rfl, rows_R (World.ownsRow_nil _ _ _ _), hb'.trans (belowK_b (w := wL) (by omega) _ D _ (.deferred none) hD hK rfl rfl)⟩
end Go.Proofs.Ytkaeoeebagndaaa.PRevokeTells
namespace Go.Proofs.Ytkaeoeebagndaaa.PRevokeTells
open Go.RowKit Go.Shelf Go.Proofs.YtkaeoeebagndaaaW.PrintWords Go.Proofs.YtkaeoeebagndaaaW.PrintLast Go.Proofs.YtkaeoeebagndaaaW.PrintMore
set_option linter.unusedVariables false
set_option linter.unusedSimpArgs false
theorem parse_nil {tmpsw w w' : World} {f : Nat} {k : Nat} {args : Array Value} {r1 : List (S43)} {r2 : Option Int} (hr : (([] : List (S43)), (some (2 : Int))) = (r1, r2)) (h : Calls Try.prog f args w fun e w' => e = .returned (.tuple #[.slice none 0 0, errW (some 2)]) ∧ Below w.heap.size w w') :
    Calls Try.prog f args w fun e w' => ∃ v0_ : Value, e = .returned (.tuple #[v0_, errW r2]) ∧ Kd.R k43 43 w' w.heap.size (fun _ => True) v0_ r1 ∧ Below w.heap.size w w' := by
  cases hr
  refine h.mono ?_
  rintro e w' ⟨he, hb⟩
  exact ⟨_, he, rows_R (World.ownsRow_nil _ _ _ _), hb⟩
theorem revoke_Parse.calls (k : Nat) (A0 : Option Addr) (c0 : Nat) (l0 : List Int) (r1 : List (S43)) (r2 : Option Int) (w : World) (hr0 : Kd.C (Kd.int .u8) w A0 l0.length l0) (hc0 : l0.length ≤ c0) (h : revoke_Parse.f k l0 = some (r1, r2)) :
    Calls Try.prog 16 #[.slice A0 l0.length c0] w fun e w' => ∃ v0_ : Value, e = .returned (.tuple #[v0_, errW r2]) ∧ Kd.R k43 43 w' w.heap.size (fun _ => True) v0_ r1 ∧ Below w.heap.size w w' := by
  obtain ⟨⟨fl, er⟩, hg, h⟩ := Option.bind_eq_some_iff.1 h
  cases er with
  | some e => exact parse_nil (tmpsw := w) (w' := w) (k := k) (Option.some.inj h) (parse_bad1 k A0 c0 l0 fl e w hr0 hc0 hg)
  | none =>
    match fl, hg, h with
    | [], hg, h => exact parse_nil (tmpsw := w) (w' := w) (k := k) (Option.some.inj h) (parse_bad2 k A0 c0 l0 [] w hr0 hc0 hg (by simp))
    | x :: y :: r, hg, h => exact parse_nil (tmpsw := w) (w' := w) (k := k) (Option.some.inj h) (parse_bad2 k A0 c0 l0 (x :: y :: r) w hr0 hc0 hg (by simp))
    | [x], hg, h =>
      replace h : (if x.f0 = 1 ∧ x.f1.length % 16 = 0 then (if x.f1.length ≤ 100000 then
        (rowsAt k x.f1 (x.f1.length / 16)).bind fun o => match o with
          | none => some (([], some 2) : List (S43) × Option Int)
          | some out => (revoke_May.f k out).bind fun t => if t = true then some (out, none) else some ([], some 2)
        else none) else some (([], some 2) : List (S43) × Option Int)) = some (r1, r2) := h
      by_cases h1 : x.f0 = 1
      · by_cases h2 : x.f1.length % 16 = 0
        · rw [if_pos ⟨h1, h2⟩] at h
          split at h
          · rename_i h3
            obtain ⟨o, ho, h⟩ := Option.bind_eq_some_iff.1 h
            have hr : ∀ i, i < x.f1.length / 16 → rowAt k x.f1 i = some ((rowAt k x.f1 i).getD none) := fun i hi => by
              obtain ⟨y, hy⟩ := rows_all _ ho i hi
              rw [hy]
              rfl
            refine parse_good k A0 c0 l0 x w hr0 hc0 hg h1 (x.f1.length / 16) (by omega) (by omega) (fun i => (rowAt k x.f1 i).getD none) hr r1 r2 ?_ ?_
            · rintro ⟨i, hi, hri⟩
              have := rows_none (r := fun i => (rowAt k x.f1 i).getD none) hri _ hr hi
              rw [ho] at this
              cases Option.some.inj this
              have := Option.some.inj h
              cases this
              exact ⟨rfl, rfl⟩
            · intro out hout
              have := rows_good (r := fun i => (rowAt k x.f1 i).getD none) _ out hr hout
              rw [ho] at this
              cases Option.some.inj this
              obtain ⟨t, ht, h⟩ := Option.bind_eq_some_iff.1 h
              refine ⟨t, ht, fun e => ?_, fun e => ?_⟩
              · rw [if_pos e] at h
                cases h
                exact ⟨rfl, rfl⟩
              · rw [if_neg (by rw [e]; decide)] at h
                cases h
                exact ⟨rfl, rfl⟩
          · cases h
        · rw [if_neg (fun q => h2 q.2)] at h
          exact parse_nil (tmpsw := w) (w' := w) (k := k) (Option.some.inj h) (parse_bad4 k A0 c0 l0 x w hr0 hc0 hg h1 h2)
      · rw [if_neg (fun q => h1 q.1)] at h
        exact parse_nil (tmpsw := w) (w' := w) (k := k) (Option.some.inj h) (parse_bad3 k A0 c0 l0 x w hr0 hc0 hg h1)
end Go.Proofs.Ytkaeoeebagndaaa.PRevokeTells
