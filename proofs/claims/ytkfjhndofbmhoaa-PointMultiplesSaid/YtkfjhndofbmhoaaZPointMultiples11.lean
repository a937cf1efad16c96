/- What the proof of PointMultiples is made of, part 11. -/
import Derived.Test.YtkfjhndofbmhoaaZPointMultiples9
import Derived.Lib.Hide
import Derived.Deep.RegionWith
namespace Go.Proofs.Ytkfjhndofbmhoaa
open Go.RowKit
set_option linter.unusedVariables false
set_option linter.unusedSimpArgs false
/-- The ways of a region meet again. -/
def Meet (A : Act) (W : World) (a : Act) (w : World) : Prop := a = A ∧ w = W
theorem Meet.mk (A : Act) (W : World) : Meet A W A W := ⟨rfl, rfl⟩
theorem wp_meet {P : Program} {c : Code} {Q : Exit → Act → World → Prop} {a : Act} {w : World} {A : Act} {W : World} (h : c.wp P (Exit.then (Meet A W) Q) a w) (k : Q .normal A W) : c.wp P Q a w :=
  Code.wp_mono (fun e a' w' hm => by cases e <;> first | exact hm | (obtain ⟨rfl, rfl⟩ := hm; exact k)) h
theorem ret_two {a b c d : Int} (h : a = c) (h' : b = d) : Ending.returned (.tuple #[.int .u64 a, .int .u64 b]) = .returned (.tuple #[.int .u64 c, .int .u64 d]) := by rw [h, h']
theorem wrap_add (x y : Int) (hx : 0 ≤ x) (hx' : x < 18446744073709551616) (hy : 0 ≤ y) (hy' : y < 18446744073709551616) :
    (x + y < 18446744073709551616 ∧ IntKind.u64.wrap (x + y) = x + y) ∨ (18446744073709551616 ≤ x + y ∧ IntKind.u64.wrap (x + y) = x + y - 18446744073709551616) := by
  rw [IntKind.wrap_u64]; omega
/-- clapperref02.add -/
theorem cadd_calls (x y c : Int) (hx : 0 ≤ x) (hx' : x < 18446744073709551616) (hy : 0 ≤ y) (hy' : y < 18446744073709551616) (hc0 : 0 ≤ c) (hc : c ≤ 1) (w : World) :
    Calls Try.prog 76 #[.int .u64 x, .int .u64 y, .int .u64 c] w fun e w' => e = .returned (.tuple #[.int .u64 (lo (x + y + c)), .int .u64 (hi (x + y + c))]) ∧ w' = w := by
  obtain ⟨s, hs⟩ : ∃ s, IntKind.u64.wrap (x + y) = s := ⟨_, rfl⟩
  have h1 := wrap_add x y hx hx' hy hy'
  rw [hs] at h1
  obtain ⟨t, ht⟩ : ∃ t, IntKind.u64.wrap (s + c) = t := ⟨_, rfl⟩
  have h2 := wrap_add s c (by omega) (by omega) (by omega) (by omega)
  rw [ht] at h2
  have HK : Hid (((x + y < 18446744073709551616 ∧ s = x + y) ∨ (18446744073709551616 ≤ x + y ∧ s = x + y - 18446744073709551616)) ∧ ((s + c < 18446744073709551616 ∧ t = s + c) ∨ (18446744073709551616 ≤ s + c ∧ t = s + c - 18446744073709551616)) ∧ 0 ≤ x ∧ x < 18446744073709551616 ∧ 0 ≤ y ∧ y < 18446744073709551616 ∧ 0 ≤ c ∧ c ≤ 1) := Lib.hid ⟨h1, h2, hx, hx', hy, hy', hc0, hc⟩
  clear h1 h2 hx hx' hy hy' hc0 hc
  go_enter Try.func76, Try.ntmps76
  go_wp2
  all_goals go_ret2
  all_goals refine ⟨ret_two ?_ ?_, by first | rfl | (repeat (first | exact Below.refl _ _ | refine Below.drew ?_ | refine below_drewN ?_ _))⟩
  all_goals obtain ⟨h1, h2, hx, hx', hy, hy', hc0, hc⟩ := HK.out
  all_goals first | unfold lo | unfold hi
  all_goals clear hs ht HK
  all_goals omega
theorem plus_val (a b : Nat) (ha : a < N256) (hb : b < N256) : ∃ s0 s1 s2 s3 c1 c2 c3 c4 : Nat,
    (lo (((wd0 a : Nat) : Int) + (wd0 b : Nat) + 0) = (s0 : Nat) ∧ hi (((wd0 a : Nat) : Int) + (wd0 b : Nat) + 0) = (c1 : Nat) ∧
    lo (((wd1 a : Nat) : Int) + (wd1 b : Nat) + (c1 : Nat)) = (s1 : Nat) ∧ hi (((wd1 a : Nat) : Int) + (wd1 b : Nat) + (c1 : Nat)) = (c2 : Nat) ∧
    lo (((wd2 a : Nat) : Int) + (wd2 b : Nat) + (c2 : Nat)) = (s2 : Nat) ∧ hi (((wd2 a : Nat) : Int) + (wd2 b : Nat) + (c2 : Nat)) = (c3 : Nat) ∧
    lo (((wd3 a : Nat) : Int) + (wd3 b : Nat) + (c3 : Nat)) = (s3 : Nat) ∧ hi (((wd3 a : Nat) : Int) + (wd3 b : Nat) + (c3 : Nat)) = (c4 : Nat)) ∧ c1 ≤ 1 ∧ c2 ≤ 1 ∧ c3 ≤ 1 ∧ c4 ≤ 1 ∧
    s0 < 18446744073709551616 ∧ s1 < 18446744073709551616 ∧ s2 < 18446744073709551616 ∧ s3 < 18446744073709551616 ∧
    (.agg #[.int .u64 (s0 : Nat), .int .u64 (s1 : Nat), .int .u64 (s2 : Nat), .int .u64 (s3 : Nat)] : Value) = numV ((a + b) % N256) ∧ (c4 = 1 ↔ N256 ≤ a + b) := by
  have a0 := wd0_lt a; have a1 := wd1_lt a; have a2 := wd2_lt a; have a3 := wd3_lt a
  have b0 := wd0_lt b; have b1 := wd1_lt b; have b2 := wd2_lt b; have b3 := wd3_lt b
  have ea := val_wd ha
  have eb := val_wd hb
  generalize wd0 a = x0 at *
  generalize wd1 a = x1 at *
  generalize wd2 a = x2 at *
  generalize wd3 a = x3 at *
  generalize wd0 b = y0 at *
  generalize wd1 b = y1 at *
  generalize wd2 b = y2 at *
  generalize wd3 b = y3 at *
  unfold N64 at a0 a1 a2 a3 b0 b1 b2 b3
  unfold lo hi
  obtain ⟨s0, hs0, e0⟩ : ∃ s : Nat, s < N64 ∧ ((x0 : Int) + y0 + 0) % 18446744073709551616 = (s : Nat) := ⟨(x0 + y0) % 18446744073709551616, by unfold N64; omega, by omega⟩
  obtain ⟨c1, d1⟩ : ∃ s : Nat, ((x0 : Int) + y0 + 0) / 18446744073709551616 = (s : Nat) := ⟨(x0 + y0) / 18446744073709551616, by omega⟩
  obtain ⟨s1, hs1, e1⟩ : ∃ s : Nat, s < N64 ∧ ((x1 : Int) + y1 + (c1 : Nat)) % 18446744073709551616 = (s : Nat) := ⟨(x1 + y1 + c1) % 18446744073709551616, by unfold N64; omega, by omega⟩
  obtain ⟨c2, d2⟩ : ∃ s : Nat, ((x1 : Int) + y1 + (c1 : Nat)) / 18446744073709551616 = (s : Nat) := ⟨(x1 + y1 + c1) / 18446744073709551616, by omega⟩
  obtain ⟨s2, hs2, e2⟩ : ∃ s : Nat, s < N64 ∧ ((x2 : Int) + y2 + (c2 : Nat)) % 18446744073709551616 = (s : Nat) := ⟨(x2 + y2 + c2) % 18446744073709551616, by unfold N64; omega, by omega⟩
  obtain ⟨c3, d3⟩ : ∃ s : Nat, ((x2 : Int) + y2 + (c2 : Nat)) / 18446744073709551616 = (s : Nat) := ⟨(x2 + y2 + c2) / 18446744073709551616, by omega⟩
  obtain ⟨s3, hs3, e3⟩ : ∃ s : Nat, s < N64 ∧ ((x3 : Int) + y3 + (c3 : Nat)) % 18446744073709551616 = (s : Nat) := ⟨(x3 + y3 + c3) % 18446744073709551616, by unfold N64; omega, by omega⟩
  obtain ⟨c4, d4⟩ : ∃ s : Nat, ((x3 : Int) + y3 + (c3 : Nat)) / 18446744073709551616 = (s : Nat) := ⟨(x3 + y3 + c3) / 18446744073709551616, by omega⟩
  have hv := val4_lt hs0 hs1 hs2 hs3
  have hc1 : c1 ≤ 1 := by omega
  have hc2 : c2 ≤ 1 := by omega
  have hc3 : c3 ≤ 1 := by omega
  have hc4 : c4 ≤ 1 := by omega
  have key : val4 s0 s1 s2 s3 + N256 * c4 = a + b := by
    rw [← ea, ← eb]; unfold val4 N256; omega
  have h2 : (a + b) % N256 = val4 s0 s1 s2 s3 := by rw [← key, Nat.add_mul_mod_self_left]; exact Nat.mod_eq_of_lt hv
  have h3 : c4 = 1 ↔ N256 ≤ a + b := by
    rw [← key]
    have : c4 = 0 ∨ c4 = 1 := by omega
    rcases this with rfl | rfl
    · simp; omega
    · simp
  rw [h2]
  refine ⟨s0, s1, s2, s3, c1, c2, c3, c4, ⟨e0, d1, e1, d2, e2, d3, e3, d4⟩, hc1, hc2, hc3, hc4, hs0, hs1, hs2, hs3, numV_of hs0 hs1 hs2 hs3, h3⟩
set_option maxRecDepth 100000 in
set_option maxHeartbeats 4000000 in
/-- clapperref02.plus -/
theorem plus_calls {va vb : Value} {a b : Nat} (ha : IsNum va a) (hb : IsNum vb b) (w : World) :
    Calls Try.prog 62 #[va, vb] w fun e w' => e = .returned (.tuple #[numV ((a + b) % N256), .bool (decide (N256 ≤ a + b))]) ∧ Below w.heap.size w w' := by
  obtain ⟨rfl, ha⟩ := ha
  obtain ⟨rfl, hb⟩ := hb
  obtain ⟨s0, s1, s2, s3, c1, c2, c3, c4, ⟨e0, d1, e1, d2, e2, d3, e3, d4⟩, hc1, hc2, hc3, hc4, hs0, hs1, hs2, hs3, hv, h4⟩ := plus_val a b ha hb
  have a0 := wd0_lt a; have a1 := wd1_lt a; have a2 := wd2_lt a; have a3 := wd3_lt a
  have b0 := wd0_lt b; have b1 := wd1_lt b; have b2 := wd2_lt b; have b3 := wd3_lt b
  unfold N64 at a0 a1 a2 a3 b0 b1 b2 b3
  have k0 := fun w => cadd_calls (wd0 a : Nat) (wd0 b : Nat) 0 (by omega) (by omega) (by omega) (by omega) (by omega) (by omega) w
  have k1 := fun w => cadd_calls (wd1 a : Nat) (wd1 b : Nat) (c1 : Nat) (by omega) (by omega) (by omega) (by omega) (by omega) (by omega) w
  have k2 := fun w => cadd_calls (wd2 a : Nat) (wd2 b : Nat) (c2 : Nat) (by omega) (by omega) (by omega) (by omega) (by omega) (by omega) w
  have k3 := fun w => cadd_calls (wd3 a : Nat) (wd3 b : Nat) (c3 : Nat) (by omega) (by omega) (by omega) (by omega) (by omega) (by omega) w
  rw [e0, d1] at k0
  rw [e1, d2] at k1
  rw [e2, d3] at k2
  rw [e3, d4] at k3
  obtain ⟨D, hD⟩ : ∃ D, D = decide (N256 ≤ a + b) := ⟨_, rfl⟩
  have hD' : (((c4 : Nat) : Int) == 1) = D := by rw [hD, Bool.eq_iff_iff]; simp only [beq_iff_eq, decide_eq_true_eq]; omega
  have HD := Lib.hid hD'
  rw [← hD, ← hv, numV_def, numV_def]
  clear e0 d1 e1 d2 e2 d3 e3 d4 hv h4 hD hD'
  generalize wd0 a = x0 at *
  generalize wd1 a = x1 at *
  generalize wd2 a = x2 at *
  generalize wd3 a = x3 at *
  generalize wd0 b = y0 at *
  generalize wd1 b = y1 at *
  generalize wd2 b = y2 at *
  generalize wd3 b = y3 at *
  have K0 := Lib.hid k0; have K1 := Lib.hid k1; have K2 := Lib.hid k2; have K3 := Lib.hid k3
  clear k0 k1 k2 k3 a0 a1 a2 a3 b0 b1 b2 b3 hs0 hs1 hs2 hs3 hc1 hc2 hc3 ha hb
  go_enter Try.func62, Try.ntmps62
  go_wp2
  refine wp_loop_rounds 5 ?_
  rw [rounds_succ]
  go_wp2
  apply wp_meet
  · go_region_with (refine (K0.out _).mono ?_; rintro e w' ⟨rfl, rfl⟩)
    all_goals exact Meet.mk _ _
  go_wp2
  rw [rounds_succ]
  go_wp2
  apply wp_meet
  · go_region_with (refine (K1.out _).mono ?_; rintro e w' ⟨rfl, rfl⟩)
    all_goals exact Meet.mk _ _
  go_wp2
  rw [rounds_succ]
  go_wp2
  apply wp_meet
  · go_region_with (refine (K2.out _).mono ?_; rintro e w' ⟨rfl, rfl⟩)
    all_goals exact Meet.mk _ _
  go_wp2
  rw [rounds_succ]
  go_wp2
  apply wp_meet
  · go_region_with (refine (K3.out _).mono ?_; rintro e w' ⟨rfl, rfl⟩)
    all_goals exact Meet.mk _ _
  go_wp2
  rw [rounds_succ]
  go_wp2
  refine bodyPost_ret (v := .tuple #[.agg #[.int .u64 (s0 : Nat), .int .u64 (s1 : Nat), .int .u64 (s2 : Nat), .int .u64 (s3 : Nat)], .bool D]) (by simp [results, Try.results62, go_sem]; exact HD.out) rfl ⟨rfl, ?_⟩
  repeat (first | exact Below.refl _ _ | refine Below.drew ?_ | refine Below.alloc ?_ (by first | (simp; done) | (simp; omega)) _)
end Go.Proofs.Ytkfjhndofbmhoaa
