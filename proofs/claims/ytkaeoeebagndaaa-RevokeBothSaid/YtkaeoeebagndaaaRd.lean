/- revoke.Parse, by its contract. -/
import Derived.Test.YtkaeoeebagndaaaRc
namespace Go.Proofs.Ytkaeoeebagndaaa.PRevokeBoth
open Go.RowKit Go.Shelf Go.Proofs.YtkaeoeebagndaaaW.PrintWords Go.Proofs.YtkaeoeebagndaaaW.PrintLast Go.Proofs.YtkaeoeebagndaaaW.PrintMore
attribute [local go_sem] Oper.semAt_some max2_int min2_int errW_none errW_some
attribute [local go_sem high] u8_w cast_tmod eql_code neq_code eql_code_nil neq_code_nil eql_nil_code neq_nil_code
set_option linter.unusedVariables false
set_option linter.unusedSimpArgs false
theorem results2 {tmps : Array Value} {W : World} {B2 B3 : Nat} {v u : Value} (ht : tmps[2]?.getD undef = .pointer (some ⟨B2, 0, none⟩)) (hu : tmps[3]?.getD undef = .pointer (some ⟨B3, 0, none⟩))
    (h2 : Boxed W B2 22 v) (h3 : Boxed W B3 25 u) : (results Try.f16 tmps).run Try.prog W = .ok (.tuple #[v, u]) W := by
  have c2 := h2.cell
  have c3 := h3.cell
  have f2 := h2.frozen
  have f3 := h3.frozen
  simp [results, Try.results16, ht, hu, go_sem, c2, c3, f2, f3]
set_option maxRecDepth 100000 in
set_option maxHeartbeats 4000000 in
theorem parse_bad1 (k : Nat) (A0 : Option Addr) (c0 : Nat) (l0 : List Int) (fl : List (S48)) (er : Int) (w : World) (hr0 : Kd.C (Kd.int .u8) w A0 l0.length l0) (hc0 : l0.length ≤ c0) (h : tlv_Get.f k l0 = some (fl, some er)) :
    Calls Try.prog 16 #[.slice A0 l0.length c0] w fun e w' => e = .returned (.tuple #[.slice none 0 0, errW (some 2)]) ∧ Below w.heap.size w w' := by
  refine (callsIn_wide (n := 4)).1 ?_
  refine callsIn_of_wp_marks Try.func16 rfl trivial ?_ rfl
  simp only [Try.ntmps16, List.size_toArray, List.length_cons, List.length_nil, Nat.reduceAdd, Nat.reduceSub, Array.replicate_succ, Array.replicate_zero, List.push_toArray, List.append_toArray, List.nil_append, List.cons_append]
  gi_wp2_with (refine ⟨trivial, ?_⟩; gi_at_call 25; refine (callsIn_wide.2 (tlv_Get.calls k A0 c0 l0 fl (some er) _ (Kd.C_alloc (Kd.C_alloc hr0 _) _) hc0 h)).mono ?_; rintro e w1 ⟨v, rfl, hS, hb⟩; have b2 : Boxed w1 w.heap.size 22 (.slice none 0 0) := (hb.block _ (by simp; omega)).trans ((Boxed.new w 22 (.slice none 0 0)).alloc _); have b3 : Boxed w1 (w.heap.size + 1) 25 .nilIface := (hb.block _ (by simp)).trans (by have := Boxed.new (w.alloc (.cells #[.slice none 0 0] 22)) 25 .nilIface; rw [World.size_alloc] at this; exact this); have c2 := b2.cell; have f2 := b2.frozen; have c3 := b3.cell; have f3 := b3.frozen)
  have hB : Below w.heap.size w w1 := (((Below.refl _ w).alloc (Nat.le_refl _) _).alloc (by simp) _).trans (hb.mono (by simp; omega))
  have e2 := (b2.set (.slice none 0 0)).other (B' := w.heap.size + 1) (by omega) (.iface 29 (.int .i64 2))
  have e3 := (b3.other (B' := w.heap.size) (by omega) (.slice none 0 0)).set (.iface 29 (.int .i64 2))
  exact ⟨_, results2 rfl rfl e2 e3, rfl, (hB.setCell (Nat.le_refl _) _).setCell (by simp) _⟩
set_option maxRecDepth 100000 in
set_option maxHeartbeats 4000000 in
theorem parse_bad2 (k : Nat) (A0 : Option Addr) (c0 : Nat) (l0 : List Int) (fl : List (S48)) (w : World) (hr0 : Kd.C (Kd.int .u8) w A0 l0.length l0) (hc0 : l0.length ≤ c0) (h : tlv_Get.f k l0 = some (fl, none)) (hl : fl.length ≠ 1) :
    Calls Try.prog 16 #[.slice A0 l0.length c0] w fun e w' => e = .returned (.tuple #[.slice none 0 0, errW (some 2)]) ∧ Below w.heap.size w w' := by
  refine (callsIn_wide (n := 4)).1 ?_
  refine callsIn_of_wp_marks Try.func16 rfl trivial ?_ rfl
  simp only [Try.ntmps16, List.size_toArray, List.length_cons, List.length_nil, Nat.reduceAdd, Nat.reduceSub, Array.replicate_succ, Array.replicate_zero, List.push_toArray, List.append_toArray, List.nil_append, List.cons_append]
  have hl2 : ((fl.length : Int) != 1) = true := by simp; omega
  gi_wp2_with (refine ⟨trivial, ?_⟩; gi_at_call 25; refine (callsIn_wide.2 (tlv_Get.calls k A0 c0 l0 fl none _ (Kd.C_alloc (Kd.C_alloc hr0 _) _) hc0 h)).mono ?_; rintro e w1 ⟨v, rfl, hS, hb⟩; have b2 : Boxed w1 w.heap.size 22 (.slice none 0 0) := (hb.block _ (by simp; omega)).trans ((Boxed.new w 22 (.slice none 0 0)).alloc _); have b3 : Boxed w1 (w.heap.size + 1) 25 .nilIface := (hb.block _ (by simp)).trans (by have := Boxed.new (w.alloc (.cells #[.slice none 0 0] 22)) 25 .nilIface; rw [World.size_alloc] at this; exact this); have c2 := b2.cell; have f2 := b2.frozen; have c3 := b3.cell; have f3 := b3.frozen; obtain ⟨A, c, rfl, hlc, hC⟩ := Kd.S_reads hS)
  have hB : Below w.heap.size w w1 := (((Below.refl _ w).alloc (Nat.le_refl _) _).alloc (by simp) _).trans (hb.mono (by simp; omega))
  have e2 := (b2.set (.slice none 0 0)).other (B' := w.heap.size + 1) (by omega) (.iface 29 (.int .i64 2))
  have e3 := (b3.other (B' := w.heap.size) (by omega) (.slice none 0 0)).set (.iface 29 (.int .i64 2))
  exact ⟨_, results2 rfl rfl e2 e3, rfl, (hB.setCell (Nat.le_refl _) _).setCell (by simp) _⟩
set_option maxRecDepth 100000 in
set_option maxHeartbeats 4000000 in
theorem parse_bad3 (k : Nat) (A0 : Option Addr) (c0 : Nat) (l0 : List Int) (x : S48) (w : World) (hr0 : Kd.C (Kd.int .u8) w A0 l0.length l0) (hc0 : l0.length ≤ c0) (h : tlv_Get.f k l0 = some ([x], none)) (hl : x.f0 ≠ 1) :
    Calls Try.prog 16 #[.slice A0 l0.length c0] w fun e w' => e = .returned (.tuple #[.slice none 0 0, errW (some 2)]) ∧ Below w.heap.size w w' := by
  refine (callsIn_wide (n := 4)).1 ?_
  refine callsIn_of_wp_marks Try.func16 rfl trivial ?_ rfl
  simp only [Try.ntmps16, List.size_toArray, List.length_cons, List.length_nil, Nat.reduceAdd, Nat.reduceSub, Array.replicate_succ, Array.replicate_zero, List.push_toArray, List.append_toArray, List.nil_append, List.cons_append]
  have hl2 : (x.f0 != 1) = true := by simpa using hl
  gi_wp2_with (refine ⟨trivial, ?_⟩; gi_at_call 25; refine (callsIn_wide.2 (tlv_Get.calls k A0 c0 l0 [x] none _ (Kd.C_alloc (Kd.C_alloc hr0 _) _) hc0 h)).mono ?_; rintro e w1 ⟨v, rfl, hS, hb⟩; have b2 : Boxed w1 w.heap.size 22 (.slice none 0 0) := (hb.block _ (by simp; omega)).trans ((Boxed.new w 22 (.slice none 0 0)).alloc _); have b3 : Boxed w1 (w.heap.size + 1) 25 .nilIface := (hb.block _ (by simp)).trans (by have := Boxed.new (w.alloc (.cells #[.slice none 0 0] 22)) 25 .nilIface; rw [World.size_alloc] at this; exact this); have c2 := b2.cell; have f2 := b2.frozen; have c3 := b3.cell; have f3 := b3.frozen; obtain ⟨g, cp, rfl, hg1, hg2, _⟩ := Kd.S_form hS (by simp); obtain ⟨_, hlc, hC⟩ := Kd.S_reads' hS; obtain ⟨ad, A1, c1, eA, hx0, hx1, hc1, hCx⟩ := at_T48 hC 0 (by decide) (by simp); cases eA; replace hx0 : w1.cell? ⟨g, 0, none⟩ = some (.int .i64 x.f0) := hx0; replace hx1 : w1.cell? ⟨g, 1, none⟩ = some (.slice A1 x.f1.length c1) := hx1; replace hCx : (Kd.int .u8).C w1 A1 x.f1.length x.f1 := hCx)
  have hB : Below w.heap.size w w1 := (((Below.refl _ w).alloc (Nat.le_refl _) _).alloc (by simp) _).trans (hb.mono (by simp; omega))
  have e2 := (b2.set (.slice none 0 0)).other (B' := w.heap.size + 1) (by omega) (.iface 29 (.int .i64 2))
  have e3 := (b3.other (B' := w.heap.size) (by omega) (.slice none 0 0)).set (.iface 29 (.int .i64 2))
  exact ⟨_, results2 rfl rfl e2 e3, rfl, (hB.setCell (Nat.le_refl _) _).setCell (by simp) _⟩
set_option maxRecDepth 100000 in
set_option maxHeartbeats 4000000 in
theorem parse_bad4 (k : Nat) (A0 : Option Addr) (c0 : Nat) (l0 : List Int) (x : S48) (w : World) (hr0 : Kd.C (Kd.int .u8) w A0 l0.length l0) (hc0 : l0.length ≤ c0) (h : tlv_Get.f k l0 = some ([x], none)) (hl : x.f0 = 1) (hm : x.f1.length % 16 ≠ 0) :
    Calls Try.prog 16 #[.slice A0 l0.length c0] w fun e w' => e = .returned (.tuple #[.slice none 0 0, errW (some 2)]) ∧ Below w.heap.size w w' := by
  refine (callsIn_wide (n := 4)).1 ?_
  refine callsIn_of_wp_marks Try.func16 rfl trivial ?_ rfl
  simp only [Try.ntmps16, List.size_toArray, List.length_cons, List.length_nil, Nat.reduceAdd, Nat.reduceSub, Array.replicate_succ, Array.replicate_zero, List.push_toArray, List.append_toArray, List.nil_append, List.cons_append]
  have hl2 : (((x.f1.length : Int) % 16) != 0) = true := by simp; omega
  gi_wp2_with (refine ⟨trivial, ?_⟩; gi_at_call 25; refine (callsIn_wide.2 (tlv_Get.calls k A0 c0 l0 [x] none _ (Kd.C_alloc (Kd.C_alloc hr0 _) _) hc0 h)).mono ?_; rintro e w1 ⟨v, rfl, hS, hb⟩; have b2 : Boxed w1 w.heap.size 22 (.slice none 0 0) := (hb.block _ (by simp; omega)).trans ((Boxed.new w 22 (.slice none 0 0)).alloc _); have b3 : Boxed w1 (w.heap.size + 1) 25 .nilIface := (hb.block _ (by simp)).trans (by have := Boxed.new (w.alloc (.cells #[.slice none 0 0] 22)) 25 .nilIface; rw [World.size_alloc] at this; exact this); have c2 := b2.cell; have f2 := b2.frozen; have c3 := b3.cell; have f3 := b3.frozen; obtain ⟨g, cp, rfl, hg1, hg2, _⟩ := Kd.S_form hS (by simp); obtain ⟨_, hlc, hC⟩ := Kd.S_reads' hS; obtain ⟨ad, A1, c1, eA, hx0, hx1, hc1, hCx⟩ := at_T48 hC 0 (by decide) (by simp); cases eA; replace hx0 : w1.cell? ⟨g, 0, none⟩ = some (.int .i64 1) := (by rw [← hl]; exact hx0); replace hx1 : w1.cell? ⟨g, 1, none⟩ = some (.slice A1 x.f1.length c1) := hx1; replace hCx : (Kd.int .u8).C w1 A1 x.f1.length x.f1 := hCx)
  have hB : Below w.heap.size w w1 := (((Below.refl _ w).alloc (Nat.le_refl _) _).alloc (by simp) _).trans (hb.mono (by simp; omega))
  have e2 := (b2.set (.slice none 0 0)).other (B' := w.heap.size + 1) (by omega) (.iface 29 (.int .i64 2))
  have e3 := (b3.other (B' := w.heap.size) (by omega) (.slice none 0 0)).set (.iface 29 (.int .i64 2))
  exact ⟨_, results2 rfl rfl e2 e3, rfl, (hB.setCell (Nat.le_refl _) _).setCell (by simp) _⟩
end Go.Proofs.Ytkaeoeebagndaaa.PRevokeBoth
