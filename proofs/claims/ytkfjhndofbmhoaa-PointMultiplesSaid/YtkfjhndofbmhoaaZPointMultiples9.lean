/- What the proof of PointMultiples is made of, part 9. -/
import Derived.Test.YtkfjhndofbmhoaaZPointMultiples0
import Derived.Deep.QuietTactic
import Derived.BigQuiet
import Derived.BigRegion
namespace Go.Proofs.Ytkfjhndofbmhoaa
open Go.RowKit
set_option linter.unusedVariables false
set_option linter.unusedSimpArgs false
def lo (x : Int) : Int := x % 18446744073709551616
def hi (x : Int) : Int := x / 18446744073709551616
theorem add64_run (x y c : Int) (hx : 0 ≤ x) (hy : 0 ≤ y) (hc0 : 0 ≤ c) (hc : c ≤ 1) (w : World) :
  (callFunc 45 #[.int .u64 x, .int .u64 y, .int .u64 c]).run Try.prog w = .ok (.value (.tuple #[.int .u64 (lo (x + y + c)), .int .u64 (hi (x + y + c))])) w := by
 rw [run_callFunc_extern Try.func45 (by kernel_rfl) (by kernel_rfl) (by kernel_rfl) (e := add64Entry) (by kernel_rfl), run_add64 x y c hx hy hc0 hc]
 rfl
theorem hi_nonneg (x : Int) (h : 0 ≤ x) : 0 ≤ hi x := by unfold hi; omega
theorem hi_le (x y c : Int) (h : x < 18446744073709551616) (h' : y < 18446744073709551616) (hc : c ≤ 1) : hi (x + y + c) ≤ 1 := by unfold hi; omega
set_option maxRecDepth 100000 in
set_option maxHeartbeats 400000 in
theorem add_walk (a0 a1 a2 a3 b0 b1 b2 b3 : Int) (w : World)
  (ha0 : 0 ≤ a0) (ha0' : a0 < 18446744073709551616) (ha1 : 0 ≤ a1) (ha1' : a1 < 18446744073709551616) (ha2 : 0 ≤ a2) (ha2' : a2 < 18446744073709551616) (ha3 : 0 ≤ a3) (ha3' : a3 < 18446744073709551616)
  (hb0 : 0 ≤ b0) (hb0' : b0 < 18446744073709551616) (hb1 : 0 ≤ b1) (hb1' : b1 < 18446744073709551616) (hb2 : 0 ≤ b2) (hb2' : b2 < 18446744073709551616) (hb3 : 0 ≤ b3) (hb3' : b3 < 18446744073709551616) :
  Calls Try.prog 24 #[.agg #[.int .u64 a0, .int .u64 a1, .int .u64 a2, .int .u64 a3], .agg #[.int .u64 b0, .int .u64 b1, .int .u64 b2, .int .u64 b3]] w fun e w' =>
   e = .returned (.tuple #[.agg #[.int .u64 (lo (a0 + b0 + 0)), .int .u64 (lo (a1 + b1 + hi (a0 + b0 + 0))), .int .u64 (lo (a2 + b2 + hi (a1 + b1 + hi (a0 + b0 + 0)))), .int .u64 (lo (a3 + b3 + hi (a2 + b2 + hi (a1 + b1 + hi (a0 + b0 + 0)))))], .bool (decide (0 < hi (a3 + b3 + hi (a2 + b2 + hi (a1 + b1 + hi (a0 + b0 + 0))))))]) ∧ Below w.heap.size w w' := by
 have p1 := hi_nonneg (a0 + b0 + 0) (by omega)
 have q1 := hi_le a0 b0 0 ha0' hb0' (by omega)
 have p2 := hi_nonneg (a1 + b1 + hi (a0 + b0 + 0)) (by omega)
 have q2 := hi_le a1 b1 _ ha1' hb1' q1
 have p3 := hi_nonneg (a2 + b2 + hi (a1 + b1 + hi (a0 + b0 + 0))) (by omega)
 have q3 := hi_le a2 b2 _ ha2' hb2' q2
 have had0 := add64_run a0 b0 0 ha0 hb0 (by omega) (by omega)
 have had1 := add64_run a1 b1 _ ha1 hb1 p1 q1
 have had2 := add64_run a2 b2 _ ha2 hb2 p2 q2
 have had3 := add64_run a3 b3 _ ha3 hb3 p3 q3
 generalize hi (a3 + b3 + hi (a2 + b2 + hi (a1 + b1 + hi (a0 + b0 + 0)))) = c4 at *
 generalize lo (a3 + b3 + hi (a2 + b2 + hi (a1 + b1 + hi (a0 + b0 + 0)))) = s3 at *
 generalize hi (a2 + b2 + hi (a1 + b1 + hi (a0 + b0 + 0))) = c3 at *
 generalize lo (a2 + b2 + hi (a1 + b1 + hi (a0 + b0 + 0))) = s2 at *
 generalize hi (a1 + b1 + hi (a0 + b0 + 0)) = c2 at *
 generalize lo (a1 + b1 + hi (a0 + b0 + 0)) = s1 at *
 generalize hi (a0 + b0 + 0) = c1 at *
 generalize lo (a0 + b0 + 0) = s0 at *
 go_enter Try.func24, Try.ntmps24
 go_wp2
 refine wp_loop_rounds 5 ?_
 rw [rounds_succ]
 go_wp2
 go_region
 go_wp2
 rw [rounds_succ]
 go_wp2
 go_region
 go_wp2
 rw [rounds_succ]
 go_wp2
 go_region
 go_wp2
 rw [rounds_succ]
 go_wp2
 go_region
 go_wp2
 rw [rounds_succ]
 go_wp2
 refine bodyPost_ret (v := .tuple #[.agg #[.int .u64 s0, .int .u64 s1, .int .u64 s2, .int .u64 s3], .bool (decide (0 < c4))]) (by simp [results, Try.results24, go_sem]) rfl ⟨rfl, ?_⟩
 repeat (first | exact Below.refl _ _ | refine Below.drew ?_ | refine Below.alloc ?_ (by first | (simp; done) | (simp; omega)) _)
/-- limb.Add -/
theorem add_calls {va vb : Value} {a b : Nat} (ha : IsNum va a) (hb : IsNum vb b) (w : World) :
  Calls Try.prog 24 #[va, vb] w fun e w' => e = .returned (.tuple #[numV ((a + b) % N256), .bool (decide (N256 ≤ a + b))]) ∧ Below w.heap.size w w' := by
 obtain ⟨rfl, ha⟩ := ha
 obtain ⟨rfl, hb⟩ := hb
 have a0 := wd0_lt a; have a1 := wd1_lt a; have a2 := wd2_lt a; have a3 := wd3_lt a
 have b0 := wd0_lt b; have b1 := wd1_lt b; have b2 := wd2_lt b; have b3 := wd3_lt b
 have ea := val_wd ha
 have eb := val_wd hb
 rw [numV_def, numV_def]
 generalize wd0 a = x0 at *
 generalize wd1 a = x1 at *
 generalize wd2 a = x2 at *
 generalize wd3 a = x3 at *
 generalize wd0 b = y0 at *
 generalize wd1 b = y1 at *
 generalize wd2 b = y2 at *
 generalize wd3 b = y3 at *
 unfold N64 at a0 a1 a2 a3 b0 b1 b2 b3
 refine (add_walk x0 x1 x2 x3 y0 y1 y2 y3 w (by omega) (by omega) (by omega) (by omega) (by omega) (by omega) (by omega) (by omega) (by omega) (by omega) (by omega) (by omega) (by omega) (by omega) (by omega) (by omega)).mono ?_
 rintro e w' ⟨rfl, hw⟩
 refine ⟨?_, hw⟩
 clear hw w w'
 unfold lo hi
 obtain ⟨s0, hs0, e0⟩ : ∃ s : Nat, s < N64 ∧ ((x0 : Int) + y0 + 0) % 18446744073709551616 = (s : Nat) := ⟨(x0 + y0) % 18446744073709551616, by unfold N64; omega, by omega⟩
 obtain ⟨c1, d1⟩ : ∃ s : Nat, ((x0 : Int) + y0 + 0) / 18446744073709551616 = (s : Nat) := ⟨(x0 + y0) / 18446744073709551616, by omega⟩
 rw [e0, d1]
 obtain ⟨s1, hs1, e1⟩ : ∃ s : Nat, s < N64 ∧ ((x1 : Int) + y1 + (c1 : Nat)) % 18446744073709551616 = (s : Nat) := ⟨(x1 + y1 + c1) % 18446744073709551616, by unfold N64; omega, by omega⟩
 obtain ⟨c2, d2⟩ : ∃ s : Nat, ((x1 : Int) + y1 + (c1 : Nat)) / 18446744073709551616 = (s : Nat) := ⟨(x1 + y1 + c1) / 18446744073709551616, by omega⟩
 rw [e1, d2]
 obtain ⟨s2, hs2, e2⟩ : ∃ s : Nat, s < N64 ∧ ((x2 : Int) + y2 + (c2 : Nat)) % 18446744073709551616 = (s : Nat) := ⟨(x2 + y2 + c2) % 18446744073709551616, by unfold N64; omega, by omega⟩
 obtain ⟨c3, d3⟩ : ∃ s : Nat, ((x2 : Int) + y2 + (c2 : Nat)) / 18446744073709551616 = (s : Nat) := ⟨(x2 + y2 + c2) / 18446744073709551616, by omega⟩
 rw [e2, d3]
 obtain ⟨s3, hs3, e3⟩ : ∃ s : Nat, s < N64 ∧ ((x3 : Int) + y3 + (c3 : Nat)) % 18446744073709551616 = (s : Nat) := ⟨(x3 + y3 + c3) % 18446744073709551616, by unfold N64; omega, by omega⟩
 obtain ⟨c4, d4⟩ : ∃ s : Nat, ((x3 : Int) + y3 + (c3 : Nat)) / 18446744073709551616 = (s : Nat) := ⟨(x3 + y3 + c3) / 18446744073709551616, by omega⟩
 rw [e3, d4, numV_of hs0 hs1 hs2 hs3]
 have hv := val4_lt hs0 hs1 hs2 hs3
 have key : val4 s0 s1 s2 s3 + N256 * c4 = a + b := by
  rw [← ea, ← eb]; unfold val4 N256; omega
 have hc4 : c4 ≤ 1 := by unfold N64 at *; omega
 have h2 : (a + b) % N256 = val4 s0 s1 s2 s3 := by rw [← key, Nat.add_mul_mod_self_left]; exact Nat.mod_eq_of_lt hv
 have h3 : (0 < ((c4 : Nat) : Int)) ↔ N256 ≤ a + b := by
  rw [← key]
  have : c4 = 0 ∨ c4 = 1 := by omega
  rcases this with rfl | rfl
  ·simp; omega
  ·simp
 rw [h2, decide_eq_decide.2 h3]
def bo (x y c : Int) : Int := if x < y + c then 1 else 0
theorem bo_nonneg (x y c : Int) : 0 ≤ bo x y c := by unfold bo; split <;> omega
theorem bo_le (x y c : Int) : bo x y c ≤ 1 := by unfold bo; split <;> omega
theorem sub64_run (x y c : Int) (hx : 0 ≤ x) (hy : 0 ≤ y) (hy' : y < 18446744073709551616) (hc0 : 0 ≤ c) (hc : c ≤ 1) (w : World) :
  (callFunc 79 #[.int .u64 x, .int .u64 y, .int .u64 c]).run Try.prog w = .ok (.value (.tuple #[.int .u64 (lo (x - y - c)), .int .u64 (bo x y c)])) w := by
 obtain ⟨X, rfl⟩ := Int.eq_ofNat_of_zero_le hx
 obtain ⟨Y, rfl⟩ := Int.eq_ofNat_of_zero_le hy
 obtain ⟨C, rfl⟩ := Int.eq_ofNat_of_zero_le hc0
 rw [run_callFunc_extern Try.func79 (by kernel_rfl) (by kernel_rfl) (by kernel_rfl) (e := sub64Entry) (by kernel_rfl), run_sub64 X Y C (by omega)]
 have e1 : ((X + 18446744073709551616 - Y - C) % 18446744073709551616 : Nat) = lo ((X : Int) - Y - C) := by unfold lo; omega
 have e2 : ((if X < Y + C then 1 else 0 : Nat) : Int) = bo X Y C := by
  unfold bo
  by_cases h : X < Y + C
  ·rw [if_pos h, if_pos (by omega)]; rfl
  ·rw [if_neg h, if_neg (by omega)]; rfl
 simp only [Result.andThen]
 rw [e1, e2]
set_option maxRecDepth 100000 in
set_option maxHeartbeats 400000 in
theorem sub_walk (a0 a1 a2 a3 b0 b1 b2 b3 : Int) (w : World)
  (ha0 : 0 ≤ a0) (ha0' : a0 < 18446744073709551616) (ha1 : 0 ≤ a1) (ha1' : a1 < 18446744073709551616) (ha2 : 0 ≤ a2) (ha2' : a2 < 18446744073709551616) (ha3 : 0 ≤ a3) (ha3' : a3 < 18446744073709551616) (hb0 : 0 ≤ b0) (hb0' : b0 < 18446744073709551616) (hb1 : 0 ≤ b1) (hb1' : b1 < 18446744073709551616) (hb2 : 0 ≤ b2) (hb2' : b2 < 18446744073709551616) (hb3 : 0 ≤ b3) (hb3' : b3 < 18446744073709551616) :
  Calls Try.prog 73 #[.agg #[.int .u64 a0, .int .u64 a1, .int .u64 a2, .int .u64 a3], .agg #[.int .u64 b0, .int .u64 b1, .int .u64 b2, .int .u64 b3]] w fun e w' =>
   e = .returned (.tuple #[.agg #[.int .u64 (lo (a0 - b0 - 0)), .int .u64 (lo (a1 - b1 - bo a0 b0 0)), .int .u64 (lo (a2 - b2 - bo a1 b1 (bo a0 b0 0))), .int .u64 (lo (a3 - b3 - bo a2 b2 (bo a1 b1 (bo a0 b0 0))))], .bool (decide (0 < bo a3 b3 (bo a2 b2 (bo a1 b1 (bo a0 b0 0)))))]) ∧ Below w.heap.size w w' := by
 have had0 := sub64_run a0 b0 0 ha0 hb0 hb0' (by omega) (by omega)
 have had1 := sub64_run a1 b1 (bo a0 b0 0) ha1 hb1 hb1' (bo_nonneg _ _ _) (bo_le _ _ _)
 have had2 := sub64_run a2 b2 (bo a1 b1 (bo a0 b0 0)) ha2 hb2 hb2' (bo_nonneg _ _ _) (bo_le _ _ _)
 have had3 := sub64_run a3 b3 (bo a2 b2 (bo a1 b1 (bo a0 b0 0))) ha3 hb3 hb3' (bo_nonneg _ _ _) (bo_le _ _ _)
 generalize bo a3 b3 (bo a2 b2 (bo a1 b1 (bo a0 b0 0))) = c4 at *
 generalize lo (a3 - b3 - bo a2 b2 (bo a1 b1 (bo a0 b0 0))) = s3 at *
 generalize bo a2 b2 (bo a1 b1 (bo a0 b0 0)) = c3 at *
 generalize lo (a2 - b2 - bo a1 b1 (bo a0 b0 0)) = s2 at *
 generalize bo a1 b1 (bo a0 b0 0) = c2 at *
 generalize lo (a1 - b1 - bo a0 b0 0) = s1 at *
 generalize bo a0 b0 0 = c1 at *
 generalize lo (a0 - b0 - 0) = s0 at *
 go_enter Try.func73, Try.ntmps73
 go_wp2
 refine wp_loop_rounds 5 ?_
 rw [rounds_succ]
 go_wp2
 go_region
 go_wp2
 rw [rounds_succ]
 go_wp2
 go_region
 go_wp2
 rw [rounds_succ]
 go_wp2
 go_region
 go_wp2
 rw [rounds_succ]
 go_wp2
 go_region
 go_wp2
 rw [rounds_succ]
 go_wp2
 refine bodyPost_ret (v := .tuple #[.agg #[.int .u64 s0, .int .u64 s1, .int .u64 s2, .int .u64 s3], .bool (decide (0 < c4))]) (by simp [results, Try.results73, go_sem]) rfl ⟨rfl, ?_⟩
 repeat (first | exact Below.refl _ _ | refine Below.drew ?_ | refine Below.alloc ?_ (by first | (simp; done) | (simp; omega)) _)
/-- limb.Sub -/
theorem sub_calls {va vb : Value} {a b : Nat} (ha : IsNum va a) (hb : IsNum vb b) (w : World) :
  Calls Try.prog 73 #[va, vb] w fun e w' => e = .returned (.tuple #[numV ((a + N256 - b) % N256), .bool (decide (a < b))]) ∧ Below w.heap.size w w' := by
 obtain ⟨rfl, ha⟩ := ha
 obtain ⟨rfl, hb⟩ := hb
 have a0 := wd0_lt a; have a1 := wd1_lt a; have a2 := wd2_lt a; have a3 := wd3_lt a
 have b0 := wd0_lt b; have b1 := wd1_lt b; have b2 := wd2_lt b; have b3 := wd3_lt b
 have ea := val_wd ha
 have eb := val_wd hb
 rw [numV_def, numV_def]
 generalize wd0 a = x0 at *
 generalize wd1 a = x1 at *
 generalize wd2 a = x2 at *
 generalize wd3 a = x3 at *
 generalize wd0 b = y0 at *
 generalize wd1 b = y1 at *
 generalize wd2 b = y2 at *
 generalize wd3 b = y3 at *
 unfold N64 at a0 a1 a2 a3 b0 b1 b2 b3
 refine (sub_walk x0 x1 x2 x3 y0 y1 y2 y3 w (by omega) (by omega) (by omega) (by omega) (by omega) (by omega) (by omega) (by omega) (by omega) (by omega) (by omega) (by omega) (by omega) (by omega) (by omega) (by omega)).mono ?_
 rintro e w' ⟨rfl, hw⟩
 refine ⟨?_, hw⟩
 clear hw w w'
 obtain ⟨c1, d1, u1⟩ : ∃ s : Nat, bo (x0 : Int) y0 0 = (s : Nat) ∧ (s = 1 ∧ (x0 : Int) < y0 + 0 ∨ s = 0 ∧ ¬ (x0 : Int) < y0 + 0) := by
  unfold bo; split
  ·rename_i h; exact ⟨1, rfl, .inl ⟨rfl, h⟩⟩
  ·rename_i h; exact ⟨0, rfl, .inr ⟨rfl, h⟩⟩
 obtain ⟨s0, hs0, e0⟩ : ∃ s : Nat, s < N64 ∧ lo ((x0 : Int) - y0 - 0) = (s : Nat) := ⟨(((x0 : Int) - y0 - 0) % 18446744073709551616).toNat, by unfold N64; omega, by unfold lo; omega⟩
 rw [e0, d1]
 obtain ⟨c2, d2, u2⟩ : ∃ s : Nat, bo (x1 : Int) y1 (c1 : Nat) = (s : Nat) ∧ (s = 1 ∧ (x1 : Int) < y1 + (c1 : Nat) ∨ s = 0 ∧ ¬ (x1 : Int) < y1 + (c1 : Nat)) := by
  unfold bo; split
  ·rename_i h; exact ⟨1, rfl, .inl ⟨rfl, h⟩⟩
  ·rename_i h; exact ⟨0, rfl, .inr ⟨rfl, h⟩⟩
 obtain ⟨s1, hs1, e1⟩ : ∃ s : Nat, s < N64 ∧ lo ((x1 : Int) - y1 - (c1 : Nat)) = (s : Nat) := ⟨(((x1 : Int) - y1 - (c1 : Nat)) % 18446744073709551616).toNat, by unfold N64; omega, by unfold lo; omega⟩
 rw [e1, d2]
 obtain ⟨c3, d3, u3⟩ : ∃ s : Nat, bo (x2 : Int) y2 (c2 : Nat) = (s : Nat) ∧ (s = 1 ∧ (x2 : Int) < y2 + (c2 : Nat) ∨ s = 0 ∧ ¬ (x2 : Int) < y2 + (c2 : Nat)) := by
  unfold bo; split
  ·rename_i h; exact ⟨1, rfl, .inl ⟨rfl, h⟩⟩
  ·rename_i h; exact ⟨0, rfl, .inr ⟨rfl, h⟩⟩
 obtain ⟨s2, hs2, e2⟩ : ∃ s : Nat, s < N64 ∧ lo ((x2 : Int) - y2 - (c2 : Nat)) = (s : Nat) := ⟨(((x2 : Int) - y2 - (c2 : Nat)) % 18446744073709551616).toNat, by unfold N64; omega, by unfold lo; omega⟩
 rw [e2, d3]
 obtain ⟨c4, d4, u4⟩ : ∃ s : Nat, bo (x3 : Int) y3 (c3 : Nat) = (s : Nat) ∧ (s = 1 ∧ (x3 : Int) < y3 + (c3 : Nat) ∨ s = 0 ∧ ¬ (x3 : Int) < y3 + (c3 : Nat)) := by
  unfold bo; split
  ·rename_i h; exact ⟨1, rfl, .inl ⟨rfl, h⟩⟩
  ·rename_i h; exact ⟨0, rfl, .inr ⟨rfl, h⟩⟩
 obtain ⟨s3, hs3, e3⟩ : ∃ s : Nat, s < N64 ∧ lo ((x3 : Int) - y3 - (c3 : Nat)) = (s : Nat) := ⟨(((x3 : Int) - y3 - (c3 : Nat)) % 18446744073709551616).toNat, by unfold N64; omega, by unfold lo; omega⟩
 rw [e3, d4]
 rw [numV_of hs0 hs1 hs2 hs3]
 have hv := val4_lt hs0 hs1 hs2 hs3
 have key : val4 s0 s1 s2 s3 + b = a + N256 * c4 := by
  rw [← ea, ← eb]; unfold val4 N256; unfold N64 at *; unfold lo at e0 e1 e2 e3; omega
 have hc4 : c4 ≤ 1 := by omega
 have hc : c4 = 0 ∨ c4 = 1 := by omega
 have h2 : (a + N256 - b) % N256 = val4 s0 s1 s2 s3 := by
  rcases hc with rfl | rfl
  ·rw [show a + N256 - b = val4 s0 s1 s2 s3 + N256 by omega, Nat.add_mod_right]; exact Nat.mod_eq_of_lt hv
  ·rw [show a + N256 - b = val4 s0 s1 s2 s3 by omega]; exact Nat.mod_eq_of_lt hv
 have h3 : (0 < ((c4 : Nat) : Int)) ↔ a < b := by
  rcases hc with rfl | rfl
  ·simp; omega
  ·simp; omega
 rw [h2, decide_eq_decide.2 h3]
end Go.Proofs.Ytkfjhndofbmhoaa
namespace Go.Proofs.Ytkfjhndofbmhoaa
open Go.RowKit
set_option linter.unusedVariables false
set_option linter.unusedSimpArgs false
def cmp2 (x y : Int) (r : Int) : Int := if x < y then -1 else if y < x then 1 else r
theorem cmp2_lt {x y r : Int} (h : x < y) : cmp2 x y r = -1 := by unfold cmp2; rw [if_pos h]
theorem cmp2_gt {x y r : Int} (h : y ≤ x) (h' : y < x) : cmp2 x y r = 1 := by unfold cmp2; rw [if_neg (by omega), if_pos h']
theorem cmp2_eq {x y r : Int} (h : y ≤ x) (h' : x ≤ y) : cmp2 x y r = r := by unfold cmp2; rw [if_neg (by omega), if_neg (by omega)]
set_option maxRecDepth 100000 in
set_option maxHeartbeats 400000 in
theorem cmp_walk (x0 x1 x2 x3 y0 y1 y2 y3 : Int) (w : World) :
  Calls Try.prog 54 #[.agg #[.int .u64 x0, .int .u64 x1, .int .u64 x2, .int .u64 x3], .agg #[.int .u64 y0, .int .u64 y1, .int .u64 y2, .int .u64 y3]] w fun e w' =>
   e = .returned (.int .i64 (cmp2 x3 y3 (cmp2 x2 y2 (cmp2 x1 y1 (cmp2 x0 y0 0))))) ∧ Below w.heap.size w w' := by
 go_enter Try.func54, Try.ntmps54
 go_wp2
 refine wp_loop_rounds 5 ?_
 rw [rounds_succ]
 go_wp2
 go_quiet (fail)
 go_wp2
 ·have h : x3 < y3 := by assumption
  go_ret
  exact ⟨ret_int (by rw [cmp2_lt h]), by repeat (first | exact Below.refl _ _ | refine Below.drew ?_ | refine below_drewN ?_ _ | refine Below.alloc ?_ (by first | (simp; done) | (simp; omega)) _)⟩
 have n3 : y3 ≤ x3 := by omega
 go_quiet (fail)
 go_wp2
 ·have h : y3 < x3 := by assumption
  go_ret
  exact ⟨ret_int (by rw [cmp2_gt n3 h]), by repeat (first | exact Below.refl _ _ | refine Below.drew ?_ | refine below_drewN ?_ _ | refine Below.alloc ?_ (by first | (simp; done) | (simp; omega)) _)⟩
 have m3 : x3 ≤ y3 := by omega
 rw [rounds_succ]
 go_wp2
 go_quiet (fail)
 go_wp2
 ·have h : x2 < y2 := by assumption
  go_ret
  exact ⟨ret_int (by rw [cmp2_eq n3 m3, cmp2_lt h]), by repeat (first | exact Below.refl _ _ | refine Below.drew ?_ | refine below_drewN ?_ _ | refine Below.alloc ?_ (by first | (simp; done) | (simp; omega)) _)⟩
 have n2 : y2 ≤ x2 := by omega
 go_quiet (fail)
 go_wp2
 ·have h : y2 < x2 := by assumption
  go_ret
  exact ⟨ret_int (by rw [cmp2_eq n3 m3, cmp2_gt n2 h]), by repeat (first | exact Below.refl _ _ | refine Below.drew ?_ | refine below_drewN ?_ _ | refine Below.alloc ?_ (by first | (simp; done) | (simp; omega)) _)⟩
 have m2 : x2 ≤ y2 := by omega
 rw [rounds_succ]
 go_wp2
 go_quiet (fail)
 go_wp2
 ·have h : x1 < y1 := by assumption
  go_ret
  exact ⟨ret_int (by rw [cmp2_eq n3 m3, cmp2_eq n2 m2, cmp2_lt h]), by repeat (first | exact Below.refl _ _ | refine Below.drew ?_ | refine below_drewN ?_ _ | refine Below.alloc ?_ (by first | (simp; done) | (simp; omega)) _)⟩
 have n1 : y1 ≤ x1 := by omega
 go_quiet (fail)
 go_wp2
 ·have h : y1 < x1 := by assumption
  go_ret
  exact ⟨ret_int (by rw [cmp2_eq n3 m3, cmp2_eq n2 m2, cmp2_gt n1 h]), by repeat (first | exact Below.refl _ _ | refine Below.drew ?_ | refine below_drewN ?_ _ | refine Below.alloc ?_ (by first | (simp; done) | (simp; omega)) _)⟩
 have m1 : x1 ≤ y1 := by omega
 rw [rounds_succ]
 go_wp2
 go_quiet (fail)
 go_wp2
 ·have h : x0 < y0 := by assumption
  go_ret
  exact ⟨ret_int (by rw [cmp2_eq n3 m3, cmp2_eq n2 m2, cmp2_eq n1 m1, cmp2_lt h]), by repeat (first | exact Below.refl _ _ | refine Below.drew ?_ | refine below_drewN ?_ _ | refine Below.alloc ?_ (by first | (simp; done) | (simp; omega)) _)⟩
 have n0 : y0 ≤ x0 := by omega
 go_quiet (fail)
 go_wp2
 ·have h : y0 < x0 := by assumption
  go_ret
  exact ⟨ret_int (by rw [cmp2_eq n3 m3, cmp2_eq n2 m2, cmp2_eq n1 m1, cmp2_gt n0 h]), by repeat (first | exact Below.refl _ _ | refine Below.drew ?_ | refine below_drewN ?_ _ | refine Below.alloc ?_ (by first | (simp; done) | (simp; omega)) _)⟩
 have m0 : x0 ≤ y0 := by omega
 rw [rounds_succ]
 go_wp2
 go_ret
 exact ⟨ret_int (by unfold cmp2; rw [if_neg (by omega), if_neg (by omega), if_neg (by omega), if_neg (by omega), if_neg (by omega), if_neg (by omega), if_neg (by omega), if_neg (by omega)]), by repeat (first | exact Below.refl _ _ | refine Below.drew ?_ | refine below_drewN ?_ _ | refine Below.alloc ?_ (by first | (simp; done) | (simp; omega)) _)⟩
def cmpI (a b : Nat) : Int := if a < b then -1 else if b < a then 1 else 0
/-- limb.Cmp -/
theorem cmp_calls {va vb : Value} {a b : Nat} (ha : IsNum va a) (hb : IsNum vb b) (w : World) :
  Calls Try.prog 54 #[va, vb] w fun e w' => e = .returned (.int .i64 (cmpI a b)) ∧ Below w.heap.size w w' := by
 obtain ⟨rfl, ha⟩ := ha
 obtain ⟨rfl, hb⟩ := hb
 rw [numV_def, numV_def]
 refine (cmp_walk (wd0 a) (wd1 a) (wd2 a) (wd3 a) (wd0 b) (wd1 b) (wd2 b) (wd3 b) w).mono ?_
 rintro e w' ⟨rfl, hw⟩
 refine ⟨?_, hw⟩
 have a0 := wd0_lt a; have a1 := wd1_lt a; have a2 := wd2_lt a; have a3 := wd3_lt a
 have b0 := wd0_lt b; have b1 := wd1_lt b; have b2 := wd2_lt b; have b3 := wd3_lt b
 have ea := val_wd ha
 have eb := val_wd hb
 clear hw w w'
 generalize wd0 a = x0 at *
 generalize wd1 a = x1 at *
 generalize wd2 a = x2 at *
 generalize wd3 a = x3 at *
 generalize wd0 b = y0 at *
 generalize wd1 b = y1 at *
 generalize wd2 b = y2 at *
 generalize wd3 b = y3 at *
 unfold N64 at *
 unfold val4 at ea eb
 unfold cmp2 cmpI
 congr 2
 split
 ·rw [if_pos (by omega)]
 split
 ·rw [if_neg (by omega), if_pos (by omega)]
 split
 ·rw [if_pos (by omega)]
 split
 ·rw [if_neg (by omega), if_pos (by omega)]
 split
 ·rw [if_pos (by omega)]
 split
 ·rw [if_neg (by omega), if_pos (by omega)]
 split
 ·rw [if_pos (by omega)]
 split
 ·rw [if_neg (by omega), if_pos (by omega)]
 rw [if_neg (by omega), if_neg (by omega)]
end Go.Proofs.Ytkfjhndofbmhoaa
namespace Go.Proofs.Ytkfjhndofbmhoaa
open Go.RowKit
set_option linter.unusedVariables false
set_option linter.unusedSimpArgs false
def hw (x y : Int) : Int := x / 2 + y % 2 * 9223372036854775808
theorem hw_or (x y : Int) (h0 : 0 ≤ x) (h0' : x < 18446744073709551616) (h1 : 0 ≤ y) : bits .or .u64 (x / 2) (IntKind.u64.wrap (y * 9223372036854775808)) = hw x y := by
 have hc : ∀ a b : Int, bits .or .u64 a b = bits .or .u64 b a := fun a b => by simp only [bits, BitVec.or_comm]
 have e : IntKind.u64.wrap (y * 9223372036854775808) = y % 2 * 9223372036854775808 := by rw [IntKind.wrap_u64]; omega
 rw [hc, e, bits_join .u64 64 (by decide) (fun n a b => by rw [IntKind.wrap_u64]; omega) 63 _ _ (by omega) (by omega) (by omega) (by omega) (by omega) (by omega)]
 unfold hw; omega
set_option maxRecDepth 100000 in
set_option maxHeartbeats 400000 in
theorem half_walk (x0 x1 x2 x3 : Int) (w : World)
  (h0 : 0 ≤ x0) (h0' : x0 < 18446744073709551616) (h1 : 0 ≤ x1) (h1' : x1 < 18446744073709551616) (h2 : 0 ≤ x2) (h2' : x2 < 18446744073709551616) (h3 : 0 ≤ x3) (h3' : x3 < 18446744073709551616) :
  Calls Try.prog 81 #[.agg #[.int .u64 x0, .int .u64 x1, .int .u64 x2, .int .u64 x3]] w fun e w' => e = .returned (.agg #[.int .u64 (hw x0 x1), .int .u64 (hw x1 x2), .int .u64 (hw x2 x3), .int .u64 (x3 / 2)]) ∧ Below w.heap.size w w' := by
 have e0 := hw_or x0 x1 h0 h0' h1
 have e1 := hw_or x1 x2 h1 h1' h2
 have e2 := hw_or x2 x3 h2 h2' h3
 go_enter Try.func81, Try.ntmps81
 go_wp2
 refine wp_loop_rounds 5 ?_
 rw [rounds_succ]
 go_wp2
 go_region
 go_wp2
 rw [rounds_succ]
 go_wp2
 go_region
 go_wp2
 rw [rounds_succ]
 go_wp2
 go_region
 go_wp2
 rw [rounds_succ]
 go_wp2
 rw [rounds_succ]
 go_wp2
 refine bodyPost_ret (v := .agg #[.int .u64 (hw x0 x1), .int .u64 (hw x1 x2), .int .u64 (hw x2 x3), .int .u64 (x3 / 2)]) (by simp [results, Try.results81, go_sem]) rfl ⟨rfl, ?_⟩
 repeat (first | exact Below.refl _ _ | refine Below.drew ?_ | refine Below.alloc ?_ (by first | (simp; done) | (simp; omega)) _)
/-- limb.Half -/
theorem half_calls {va : Value} {a : Nat} (ha : IsNum va a) (w : World) :
  Calls Try.prog 81 #[va] w fun e w' => e = .returned (numV (a / 2)) ∧ Below w.heap.size w w' := by
 obtain ⟨rfl, ha⟩ := ha
 have a0 := wd0_lt a; have a1 := wd1_lt a; have a2 := wd2_lt a; have a3 := wd3_lt a
 have ea := val_wd ha
 rw [numV_def]
 generalize wd0 a = x0 at *
 generalize wd1 a = x1 at *
 generalize wd2 a = x2 at *
 generalize wd3 a = x3 at *
 unfold N64 at a0 a1 a2 a3
 refine (half_walk x0 x1 x2 x3 w (by omega) (by omega) (by omega) (by omega) (by omega) (by omega) (by omega) (by omega)).mono ?_
 rintro e w' ⟨rfl, hb⟩
 refine ⟨?_, hb⟩
 clear hb w w'
 have e0 : hw x0 x1 = ((x0 / 2 + x1 % 2 * 9223372036854775808 : Nat) : Int) := by unfold hw; omega
 have e1 : hw x1 x2 = ((x1 / 2 + x2 % 2 * 9223372036854775808 : Nat) : Int) := by unfold hw; omega
 have e2 : hw x2 x3 = ((x2 / 2 + x3 % 2 * 9223372036854775808 : Nat) : Int) := by unfold hw; omega
 have e3 : (x3 : Int) / 2 = ((x3 / 2 : Nat) : Int) := by omega
 rw [e0, e1, e2, e3, numV_of (by unfold N64; omega) (by unfold N64; omega) (by unfold N64; omega) (by unfold N64; omega)]
 have key : val4 (x0 / 2 + x1 % 2 * 9223372036854775808) (x1 / 2 + x2 % 2 * 9223372036854775808) (x2 / 2 + x3 % 2 * 9223372036854775808) (x3 / 2) = a / 2 := by
  rw [← ea]; unfold val4; omega
 rw [key]
/-- bit i of a number -/
def bitI (a : Nat) (i : Int) : Bool := decide (0 ≤ i) && a.testBit i.toNat
set_option maxRecDepth 100000 in
set_option maxHeartbeats 400000 in
theorem bit_walk (x0 x1 x2 x3 i : Int) (w : World) (hi : 0 ≤ i) (hi' : i < 256) :
  Calls Try.prog 42 #[.agg #[.int .u64 x0, .int .u64 x1, .int .u64 x2, .int .u64 x3], .int .i64 i] w fun e w' =>
   e = .returned (.bool (bits .and .u64 ((if i / 64 = 0 then x0 else if i / 64 = 1 then x1 else if i / 64 = 2 then x2 else x3) / 2 ^ (i % 64).toNat) 1 == 1)) ∧ Below w.heap.size w w' := by
 have hq : i / 64 = 0 ∨ i / 64 = 1 ∨ i / 64 = 2 ∨ i / 64 = 3 := by omega
 rcases hq with hq | hq | hq | hq
 all_goals
  rw [hq]
  go_enter Try.func42, Try.ntmps42
  go_wp2
  go_ret
  exact ⟨rfl, by repeat (first | exact Below.refl _ _ | refine Below.drew ?_ | refine below_drewN ?_ _ | refine Below.alloc ?_ (by first | (simp; done) | (simp; omega)) _)⟩
set_option maxRecDepth 100000 in
set_option maxHeartbeats 400000 in
theorem bit_out (x0 x1 x2 x3 i : Int) (w : World) (h : i < 0 ∨ 256 ≤ i) :
  Calls Try.prog 42 #[.agg #[.int .u64 x0, .int .u64 x1, .int .u64 x2, .int .u64 x3], .int .i64 i] w fun e w' => e = .returned (.bool false) ∧ Below w.heap.size w w' := by
 rcases h with h | h
 ·have hd : decide (0 ≤ i) = false := by simp; omega
  go_enter Try.func42, Try.ntmps42
  go_wp2
  go_ret
  exact ⟨rfl, by repeat (first | exact Below.refl _ _ | refine Below.drew ?_ | refine below_drewN ?_ _ | refine Below.alloc ?_ (by first | (simp; done) | (simp; omega)) _)⟩
 ·have hd : decide (0 ≤ i) = true := by simp; omega
  have hd2 : decide (i < 256) = false := by simp; omega
  go_enter Try.func42, Try.ntmps42
  go_wp2
  go_ret
  exact ⟨rfl, by repeat (first | exact Below.refl _ _ | refine Below.drew ?_ | refine below_drewN ?_ _ | refine Below.alloc ?_ (by first | (simp; done) | (simp; omega)) _)⟩
theorem testBit_word (x : Nat) (r : Nat) (hx : x < N64) : (bits .and .u64 ((x : Int) / 2 ^ r) 1 == 1) = x.testBit r := by
 have e : (x : Int) / 2 ^ r = ((x / 2 ^ r : Nat) : Int) := by rw [Int.natCast_ediv, Int.natCast_pow]; rfl
 have hl : x / 2 ^ r ≤ x := Nat.div_le_self _ _
 unfold N64 at hx
 rw [e, Nat.testBit_eq_decide_div_mod_eq]
 generalize x / 2 ^ r = q at *
 rw [and_one_u64 _ (by omega) (by omega), Bool.eq_iff_iff]
 simp
 omega
theorem testBit_wd (a i : Nat) (hi : i < 256) : a.testBit i = (if i / 64 = 0 then wd0 a else if i / 64 = 1 then wd1 a else if i / 64 = 2 then wd2 a else wd3 a).testBit (i % 64) := by
 have hq : i / 64 = 0 ∨ i / 64 = 1 ∨ i / 64 = 2 ∨ i / 64 = 3 := by omega
 have p1 : (18446744073709551616 : Nat) = 2 ^ 64 := by decide
 have p2 : (340282366920938463463374607431768211456 : Nat) = 2 ^ 128 := by decide
 have p3 : (6277101735386680763835789423207666416102355444464034512896 : Nat) = 2 ^ 192 := by decide
 have hr : i % 64 < 64 := Nat.mod_lt _ (by omega)
 rcases hq with hq | hq | hq | hq
 ·rw [if_pos hq]; unfold wd0; rw [p1, Nat.testBit_mod_two_pow]; simp [hr]; congr 1; omega
 ·rw [if_neg (by omega), if_pos hq]; unfold wd1; rw [p1, Nat.testBit_mod_two_pow, Nat.testBit_div_two_pow]; simp [hr]; congr 1; omega
 ·rw [if_neg (by omega), if_neg (by omega), if_pos hq]; unfold wd2; rw [p1, p2, Nat.testBit_mod_two_pow, Nat.testBit_div_two_pow]; simp [hr]; congr 1; omega
 ·rw [if_neg (by omega), if_neg (by omega), if_neg (by omega)]; unfold wd3; rw [p1, p3, Nat.testBit_mod_two_pow, Nat.testBit_div_two_pow]; simp [hr]; congr 1; omega
theorem testBit_high (a i : Nat) (ha : a < N256) (hi : 256 ≤ i) : a.testBit i = false := by
 apply Nat.testBit_lt_two_pow
 have : 2 ^ 256 ≤ 2 ^ i := Nat.pow_le_pow_right (by omega) hi
 have e : N256 = 2 ^ 256 := by unfold N256; decide
 omega
/-- limb.Bit -/
theorem bit_calls {va : Value} {a : Nat} (ha : IsNum va a) (i : Int) (w : World) :
  Calls Try.prog 42 #[va, .int .i64 i] w fun e w' => e = .returned (.bool (bitI a i)) ∧ Below w.heap.size w w' := by
 obtain ⟨rfl, ha⟩ := ha
 rw [numV_def]
 by_cases h : 0 ≤ i ∧ i < 256
 ·refine (bit_walk _ _ _ _ i w h.1 h.2).mono ?_
  rintro e w' ⟨rfl, hb⟩
  refine ⟨ret_bool ?_, hb⟩
  obtain ⟨n, rfl⟩ := Int.eq_ofNat_of_zero_le h.1
  have hn : n < 256 := by omega
  unfold bitI
  rw [testBit_wd a _ (by simpa using hn)]
  simp only [h.1, decide_true, Bool.true_and, Int.toNat_natCast]
  have c0 : ((n : Int) / 64 = 0) ↔ n / 64 = 0 := by omega
  have c1 : ((n : Int) / 64 = 1) ↔ n / 64 = 1 := by omega
  have c2 : ((n : Int) / 64 = 2) ↔ n / 64 = 2 := by omega
  have er : ((n : Int) % 64).toNat = n % 64 := by omega
  simp only [c0, c1, c2, er]
  split
  ·exact testBit_word _ _ (wd0_lt a)
  split
  ·exact testBit_word _ _ (wd1_lt a)
  split
  ·exact testBit_word _ _ (wd2_lt a)
  ·exact testBit_word _ _ (wd3_lt a)
 ·refine (bit_out _ _ _ _ i w (by omega)).mono ?_
  rintro e w' ⟨rfl, hb⟩
  refine ⟨ret_bool ?_, hb⟩
  unfold bitI
  by_cases h0 : 0 ≤ i
  ·rw [testBit_high a i.toNat ha (by omega), Bool.and_false]
  ·simp [h0]
end Go.Proofs.Ytkfjhndofbmhoaa
