/- What the proof of PointMultiples is made of, part 13. -/
import Derived.Test.YtkfjhndofbmhoaaZPointMultiples11
import Derived.Test.YtkfjhndofbmhoaaZPointMultiples12
import Derived.Deep.QuietTactic
import Derived.BigQuiet
import Derived.Deep.Cut
namespace Go.Proofs.Ytkfjhndofbmhoaa
open Go.RowKit
set_option linter.unusedVariables false
set_option linter.unusedSimpArgs false
def lt2 (x y : Int) (r : Bool) : Bool := if x = y then r else decide (x < y)
theorem lt2_ne {x y : Int} {r : Bool} (h : ¬ x = y) : lt2 x y r = decide (x < y) := if_neg h
theorem lt2_eq {x y : Int} {r : Bool} (h : x = y) : lt2 x y r = r := if_pos h
set_option maxRecDepth 100000 in
set_option maxHeartbeats 1000000 in
theorem less_walk (x0 x1 x2 x3 y0 y1 y2 y3 : Int) (w : World) :
  Calls Try.prog 63 #[.agg #[.int .u64 x0, .int .u64 x1, .int .u64 x2, .int .u64 x3], .agg #[.int .u64 y0, .int .u64 y1, .int .u64 y2, .int .u64 y3]] w fun e w' =>
   e = .returned (.bool (lt2 x3 y3 (lt2 x2 y2 (lt2 x1 y1 (lt2 x0 y0 false))))) ∧ Below w.heap.size w w' := by
 go_enter Try.func63, Try.ntmps63
 go_wp2
 refine wp_loop_rounds 5 ?_
 rw [rounds_succ]
 go_wp2
 go_quiet (fail)
 by_cases n3 : x3 = y3
 case neg =>
  have HN := Lib.hid n3
  go_wp2
  go_quiet (fail)
  go_wp2
  go_ret
  exact ⟨ret_bool (by rw [lt2_ne HN.out]), by repeat (first | exact Below.refl _ _ | refine Below.drew ?_ | refine below_drewN ?_ _ | refine Below.alloc ?_ (by first | (simp; done) | (simp; omega)) _)⟩
 go_wp2
 rw [rounds_succ]
 go_wp2
 go_quiet (fail)
 by_cases n2 : x2 = y2
 case neg =>
  have HN := Lib.hid n2
  go_wp2
  go_quiet (fail)
  go_wp2
  go_ret
  exact ⟨ret_bool (by rw [lt2_eq n3, lt2_ne HN.out]), by repeat (first | exact Below.refl _ _ | refine Below.drew ?_ | refine below_drewN ?_ _ | refine Below.alloc ?_ (by first | (simp; done) | (simp; omega)) _)⟩
 go_wp2
 rw [rounds_succ]
 go_wp2
 go_quiet (fail)
 by_cases n1 : x1 = y1
 case neg =>
  have HN := Lib.hid n1
  go_wp2
  go_quiet (fail)
  go_wp2
  go_ret
  exact ⟨ret_bool (by rw [lt2_eq n3, lt2_eq n2, lt2_ne HN.out]), by repeat (first | exact Below.refl _ _ | refine Below.drew ?_ | refine below_drewN ?_ _ | refine Below.alloc ?_ (by first | (simp; done) | (simp; omega)) _)⟩
 go_wp2
 rw [rounds_succ]
 go_wp2
 go_quiet (fail)
 by_cases n0 : x0 = y0
 case neg =>
  have HN := Lib.hid n0
  go_wp2
  go_quiet (fail)
  go_wp2
  go_ret
  exact ⟨ret_bool (by rw [lt2_eq n3, lt2_eq n2, lt2_eq n1, lt2_ne HN.out]), by repeat (first | exact Below.refl _ _ | refine Below.drew ?_ | refine below_drewN ?_ _ | refine Below.alloc ?_ (by first | (simp; done) | (simp; omega)) _)⟩
 go_wp2
 rw [rounds_succ]
 go_wp2
 go_ret
 exact ⟨ret_bool (by rw [lt2_eq n3, lt2_eq n2, lt2_eq n1, lt2_eq n0]), by repeat (first | exact Below.refl _ _ | refine Below.drew ?_ | refine below_drewN ?_ _ | refine Below.alloc ?_ (by first | (simp; done) | (simp; omega)) _)⟩
/-- clapperref02.less -/
theorem less_calls {va vb : Value} {a b : Nat} (ha : IsNum va a) (hb : IsNum vb b) (w : World) :
  Calls Try.prog 63 #[va, vb] w fun e w' => e = .returned (.bool (decide (a < b))) ∧ Below w.heap.size w w' := by
 obtain ⟨rfl, ha⟩ := ha
 obtain ⟨rfl, hb⟩ := hb
 rw [numV_def, numV_def]
 refine (less_walk (wd0 a) (wd1 a) (wd2 a) (wd3 a) (wd0 b) (wd1 b) (wd2 b) (wd3 b) w).mono ?_
 rintro e w' ⟨rfl, hw⟩
 refine ⟨ret_bool ?_, hw⟩
 have a0 := wd0_lt a; have a1 := wd1_lt a; have a2 := wd2_lt a; have a3 := wd3_lt a
 have b0 := wd0_lt b; have b1 := wd1_lt b; have b2 := wd2_lt b; have b3 := wd3_lt b
 have ea := val_wd ha
 have eb := val_wd hb
 clear hw w w'
 generalize wd0 a = x0 at *
 generalize wd1 a = x1 at *
 generalize wd2 a = x2 at *
 generalize wd3 a = x3 at *
 generalize wd0 b = y0 at *
 generalize wd1 b = y1 at *
 generalize wd2 b = y2 at *
 generalize wd3 b = y3 at *
 unfold N64 at *
 unfold val4 at ea eb
 unfold lt2
 split
 ·split
  ·split
   ·split
    ·symm; simp only [decide_eq_false_iff_not]; omega
    ·simp only [decide_eq_decide]; omega
   ·simp only [decide_eq_decide]; omega
  ·simp only [decide_eq_decide]; omega
 ·simp only [decide_eq_decide]; omega
theorem one_num : numV 1 = .agg #[.int .u64 1, .int .u64 0, .int .u64 0, .int .u64 0] := rfl
theorem comp_wd {b : Nat} (hb : b < N256) : ∃ c, c < N256 ∧ c + b + 1 = N256 ∧ wd0 c = 18446744073709551615 - wd0 b ∧ wd1 c = 18446744073709551615 - wd1 b ∧ wd2 c = 18446744073709551615 - wd2 b ∧ wd3 c = 18446744073709551615 - wd3 b := by
 have b0 := wd0_lt b; have b1 := wd1_lt b; have b2 := wd2_lt b; have b3 := wd3_lt b
 have eb := val_wd hb
 generalize wd0 b = y0 at *
 generalize wd1 b = y1 at *
 generalize wd2 b = y2 at *
 generalize wd3 b = y3 at *
 have h0 : 18446744073709551615 - y0 < N64 := by unfold N64; omega
 have h1 : 18446744073709551615 - y1 < N64 := by unfold N64; omega
 have h2 : 18446744073709551615 - y2 < N64 := by unfold N64; omega
 have h3 : 18446744073709551615 - y3 < N64 := by unfold N64; omega
 refine ⟨val4 (18446744073709551615 - y0) (18446744073709551615 - y1) (18446744073709551615 - y2) (18446744073709551615 - y3), val4_lt h0 h1 h2 h3, ?_, wd0_val h0, wd1_val h0 h1, wd2_val h0 h1 h2, wd3_val h0 h1 h2 h3⟩
 rw [← eb]
 unfold val4 N256
 unfold N64 at *
 omega
theorem comp_wrap (y : Nat) (h : y < 18446744073709551616) : IntKind.u64.wrap (18446744073709551615 - (y : Int)) = ((18446744073709551615 - y : Nat) : Int) := by
 rw [IntKind.wrap_u64]; omega
set_option maxRecDepth 100000 in
set_option maxHeartbeats 2000000 in
/-- clapperref02.minus -/
theorem minus_calls {va vb : Value} {a b : Nat} (ha : IsNum va a) (hb : IsNum vb b) (w : World) :
  Calls Try.prog 64 #[va, vb] w fun e w' => e = .returned (numV ((a + N256 - b) % N256)) ∧ Below w.heap.size w w' := by
 obtain ⟨rfl, ha⟩ := ha
 obtain ⟨rfl, hb⟩ := hb
 obtain ⟨c, hc, hcb, d0, d1, d2, d3⟩ := comp_wd hb
 have p1 := fun w => plus_calls (IsNum.mk ha) (IsNum.mk hc) w
 obtain ⟨s, hs⟩ : ∃ s, (a + c) % N256 = s := ⟨_, rfl⟩
 rw [hs] at p1
 have hs' : s < N256 := by rw [← hs]; exact Nat.mod_lt _ N256_pos
 have p2 := fun w => plus_calls (IsNum.mk hs') (IsNum.mk (a := 1) (by decide)) w
 have e : (s + 1) % N256 = (a + N256 - b) % N256 := by
  rw [← hs, Nat.mod_add_mod, show a + c + 1 = a + N256 - b by omega]
 rw [e, one_num] at p2
 clear e hs' hs hcb hc ha hb
 rw [numV_def a, numV_def c, d0, d1, d2, d3] at p1
 clear d0 d1 d2 d3
 have w0 := comp_wrap _ (wd0_lt b)
 have w1 := comp_wrap _ (wd1_lt b)
 have w2 := comp_wrap _ (wd2_lt b)
 have w3 := comp_wrap _ (wd3_lt b)
 rw [numV_def a, numV_def b]
 generalize (a + N256 - b) % N256 = r at *
 generalize wd0 b = y0 at *
 generalize wd1 b = y1 at *
 generalize wd2 b = y2 at *
 generalize wd3 b = y3 at *
 generalize 18446744073709551615 - y0 = z0 at *
 generalize 18446744073709551615 - y1 = z1 at *
 generalize 18446744073709551615 - y2 = z2 at *
 generalize 18446744073709551615 - y3 = z3 at *
 rw [numV_def s] at p1 p2
 rw [numV_def r] at p2
 rw [numV_def r]
 have P1 := Lib.hid p1; have P2 := Lib.hid p2
 clear p1 p2
 go_enter Try.func64, Try.ntmps64
 go_wp2
 refine wp_loop_rounds 5 ?_
 rw [rounds_succ]
 go_wp2
 rw [rounds_succ]
 go_wp2
 rw [rounds_succ]
 go_wp2
 rw [rounds_succ]
 go_wp2
 rw [rounds_succ]
 go_wp2_with fail
 refine (P1.out _).mono ?_
 rintro e w1 ⟨rfl, hb1⟩
 have n1 := hb1.size
 simp at n1
 go_wp2_with fail
 refine (P2.out _).mono ?_
 rintro e w2 ⟨rfl, hb2⟩
 have n2 := hb2.size
 simp at n2
 have rA : Rw w2 24 (w.heap.size + 1 + 1) [.int .u64 0, .int .u64 0, .int .u64 0, .int .u64 0] := by
  refine Rw.below ?_ hb2 (by simp; omega)
  refine Rw.alloc ?_ _
  refine Rw.below ?_ hb1 (by simp)
  exact Rw.new (by simp)
 obtain ⟨cA0, cA1, cA2, cA3⟩ := rA.four
 have zA0 := rA.free 0
 have zA1 := rA.free 1
 have zA2 := rA.free 2
 have zA3 := rA.free 3
 have gA := rA.size
 have rB : Rw w2 24 (w1.heap.size) [.int .u64 (wd0 s : Nat), .int .u64 (wd1 s : Nat), .int .u64 (wd2 s : Nat), .int .u64 (wd3 s : Nat)] := by
  refine Rw.below ?_ hb2 (by simp)
  exact Rw.new (by simp)
 obtain ⟨cB0, cB1, cB2, cB3⟩ := rB.four
 have zB0 := rB.free 0
 have zB1 := rB.free 1
 have zB2 := rB.free 2
 have zB3 := rB.free 3
 have gB := rB.size
 have hB : Below w.heap.size w w2 := by
  have h1 : Below w.heap.size w w1 := Below.trans (by repeat (first | exact Below.refl _ _ | (with_reducible assumption) | refine Below.drew ?_ | refine below_drewN ?_ _ | refine Below.alloc ?_ (by first | (simp; done) | (simp; omega)) _ | refine Below.setCell ?_ (by simp; omega) _)) (hb1.mono (by simp; omega))
  exact Below.trans (h1.alloc (by omega) _) (hb2.mono (by simp; omega))
 clear hb1 hb2
 go_upto_region 7 with fail
 refine wp_forget (fun x => Rw x 24 (w.heap.size + 1 + 1) [.int .u64 0, .int .u64 0, .int .u64 0, .int .u64 0] ∧ Rw x 24 w1.heap.size [.int .u64 (wd0 r : Nat), .int .u64 (wd1 r : Nat), .int .u64 (wd2 r : Nat), .int .u64 (wd3 r : Nat)] ∧ Below w.heap.size w x) ⟨Rw.other4 rA (by omega), Rw.set4 rB, by repeat (first | exact Below.refl _ _ | (with_reducible assumption) | refine Below.drew ?_ | refine below_drewN ?_ _ | refine Below.alloc ?_ (by first | (simp; done) | (simp; omega)) _ | refine Below.setCell ?_ (by simp; omega) _)⟩ ?_
 rintro w3 ⟨rA3, rB3, hB3⟩
 clear cA0 cA1 cA2 cA3 zA0 zA1 zA2 zA3 cB0 cB1 cB2 cB3 zB0 zB1 zB2 zB3 gA gB rA rB hB n2
 obtain ⟨cA0, cA1, cA2, cA3⟩ := rA3.four
 have zA0 := rA3.free 0
 have zA1 := rA3.free 1
 have zA2 := rA3.free 2
 have zA3 := rA3.free 3
 have gA := rA3.size
 obtain ⟨cB0, cB1, cB2, cB3⟩ := rB3.four
 have gB := rB3.size
 go_wp2
 refine bodyPost_ret (v := numV r) (results_num rfl rfl (Rw.set4 rA3)) rfl ⟨by rw [numV_def], ?_⟩
 repeat (first | exact Below.refl _ _ | (with_reducible assumption) | refine Below.drew ?_ | refine below_drewN ?_ _ | refine Below.alloc ?_ (by first | (simp; done) | (simp; omega)) _ | refine Below.setCell ?_ (by simp; omega) _)
end Go.Proofs.Ytkfjhndofbmhoaa
namespace Go.Proofs.Ytkfjhndofbmhoaa
open Go.RowKit
set_option linter.unusedVariables false
set_option linter.unusedSimpArgs false
theorem fits_sum {a b m : Nat} (ham : a < m) (hbm : b < m) (hm : m < N256) :
  (N256 ≤ a + b → ((a + b) % N256 + N256 - m) % N256 = (a + b) % m) ∧ (¬ N256 ≤ a + b → (a + b) % N256 < m → (a + b) % N256 = (a + b) % m) ∧ (¬ N256 ≤ a + b → ¬ (a + b) % N256 < m → ((a + b) % N256 + N256 - m) % N256 = (a + b) % m) := by
 have hs : ∀ h : m ≤ a + b, (a + b) % m = a + b - m := fun h => by
  rw [Nat.mod_eq_sub_mod h, Nat.mod_eq_of_lt (by omega)]
 refine ⟨fun h => ?_, fun h h' => ?_, fun h h' => ?_⟩
 ·rw [hs (by omega)]
  have e : (a + b) % N256 = a + b - N256 := by rw [Nat.mod_eq_sub_mod h, Nat.mod_eq_of_lt (by omega)]
  rw [e, show a + b - N256 + N256 - m = a + b - m by omega, Nat.mod_eq_of_lt (by omega)]
 ·rw [Nat.mod_eq_of_lt (a := a + b) (b := N256) (by omega)] at h' ⊢
  rw [Nat.mod_eq_of_lt h']
 ·rw [Nat.mod_eq_of_lt (a := a + b) (b := N256) (by omega)] at h' ⊢
  rw [hs (by omega), show a + b + N256 - m = a + b - m + N256 by omega, Nat.add_mod_right, Nat.mod_eq_of_lt (by omega)]
theorem fits_dif {a b m : Nat} (ham : a < m) (hbm : b < m) (hm : m < N256) :
  (a < b → ((a + N256 - b) % N256 + m) % N256 = (a + m - b) % m) ∧ (¬ a < b → (a + N256 - b) % N256 = (a + m - b) % m) := by
 refine ⟨fun h => ?_, fun h => ?_⟩
 ·rw [Nat.mod_eq_of_lt (a := a + N256 - b) (by omega), show a + N256 - b + m = (a + m - b) + N256 by omega, Nat.add_mod_right, Nat.mod_eq_of_lt (a := a + m - b) (by omega), Nat.mod_eq_of_lt (by omega)]
 ·rw [show a + N256 - b = (a - b) + N256 by omega, Nat.add_mod_right, Nat.mod_eq_of_lt (by omega), show a + m - b = (a - b) + m by omega, Nat.add_mod_right, Nat.mod_eq_of_lt (by omega)]
set_option maxRecDepth 100000 in
set_option maxHeartbeats 1000000 in
/-- clapperref02.Add -/
theorem fadd_calls {va vb vm : Value} {a b m : Nat} (ha : IsNum va a) (hb : IsNum vb b) (hm : IsNum vm m) (ham : a < m) (hbm : b < m) (w : World) :
  Calls Try.prog 36 #[va, vb, vm] w fun e w' => e = .returned (numV ((a + b) % m)) ∧ Below w.heap.size w w' := by
 obtain ⟨rfl, ha⟩ := ha
 obtain ⟨rfl, hb⟩ := hb
 obtain ⟨rfl, hm⟩ := hm
 obtain ⟨f1, f2, f3⟩ := fits_sum ham hbm hm
 have p1 := fun w => plus_calls (IsNum.mk ha) (IsNum.mk hb) w
 have hs' : (a + b) % N256 < N256 := Nat.mod_lt _ N256_pos
 have p2 := fun w => less_calls (IsNum.mk hs') (IsNum.mk hm) w
 have p3 := fun w => minus_calls (IsNum.mk hs') (IsNum.mk hm) w
 generalize (a + b) % m = r at *
 generalize (a + b) % N256 = s at *
 obtain ⟨t, ht⟩ : ∃ t, (s + N256 - m) % N256 = t := ⟨_, rfl⟩
 rw [ht] at f1 f3 p3
 obtain ⟨D, hD⟩ : ∃ D, decide (N256 ≤ a + b) = D := ⟨_, rfl⟩
 rw [hD] at p1
 obtain ⟨L, hL⟩ : ∃ L, decide (s < m) = L := ⟨_, rfl⟩
 rw [hL] at p2
 have F1 : Hid (D = true → t = r) := Lib.hid fun h => f1 (by rw [h] at hD; simpa using hD)
 have F2 : Hid (D = false → L = true → s = r) := Lib.hid fun h h' => f2 (by rw [h] at hD; simpa using hD) (by rw [h'] at hL; simpa using hL)
 have F3 : Hid (D = false → L = false → t = r) := Lib.hid fun h h' => f3 (by rw [h] at hD; simpa using hD) (by rw [h'] at hL; simpa using hL)
 clear f1 f2 f3 hD hL ht hs' ham hbm ha hb hm
 simp only [numV_def] at p1 p2 p3
 simp only [numV_def]
 have P1 := Lib.hid p1; have P2 := Lib.hid p2; have P3 := Lib.hid p3
 clear p1 p2 p3
 go_enter Try.func36, Try.ntmps36
 go_wp2_with fail
 refine (P1.out _).mono ?_
 rintro e w1 ⟨rfl, hb1⟩
 have n1 := hb1.size
 try simp at n1
 have rM1 : Hid (Rw w1 24 (w.heap.size + 1 + 1) [.int .u64 (wd0 m : Nat), .int .u64 (wd1 m : Nat), .int .u64 (wd2 m : Nat), .int .u64 (wd3 m : Nat)]) := Lib.hid (by
  refine Rw.below ?_ hb1 (by first | (simp; done) | (simp; omega) | omega)
  repeat (first | with_reducible assumption | exact Rw.new (by first | rfl | (simp; done)) | with_reducible refine Rw.alloc ?_ _ | with_reducible refine Rw.drew ?_ | with_reducible refine Rw.drewN ?_ _))
 have rO1 : Hid (Rw w1 24 (w.heap.size + 1 + 1 + 1) [.int .u64 0, .int .u64 0, .int .u64 0, .int .u64 0]) := Lib.hid (by
  refine Rw.below ?_ hb1 (by first | (simp; done) | (simp; omega) | omega)
  repeat (first | with_reducible assumption | exact Rw.new (by first | rfl | (simp; done)) | with_reducible refine Rw.alloc ?_ _ | with_reducible refine Rw.drew ?_ | with_reducible refine Rw.drewN ?_ _))
 have hB1 : Below w.heap.size w w1 := Below.trans (by
  repeat (first | exact Below.refl _ _ | (with_reducible assumption) | refine Below.drew ?_ | refine below_drewN ?_ _ | refine Below.alloc ?_ (by first | (simp; done) | (simp; omega) | omega) _ | refine Below.setCell ?_ (by first | (simp; omega) | omega) _)) (hb1.mono (by first | (simp; omega) | omega))
 clear hb1
 replace rM1 := rM1.out
 obtain ⟨cM10, cM11, cM12, cM13⟩ := rM1.four
 have zM10 := rM1.free 0
 have zM11 := rM1.free 1
 have zM12 := rM1.free 2
 have zM13 := rM1.free 3
 have gM1 := rM1.size
 replace rO1 := rO1.out
 obtain ⟨cO10, cO11, cO12, cO13⟩ := rO1.four
 have zO10 := rO1.free 0
 have zO11 := rO1.free 1
 have zO12 := rO1.free 2
 have zO13 := rO1.free 3
 have gO1 := rO1.size
 cases D with
 | true =>
  have E := F1.out (by first | rfl | trivial)
  subst E
  clear F1 F2 F3
  go_wp2_with fail
  refine (P3.out _).mono ?_
  rintro e w2 ⟨rfl, hb2⟩
  have n2 := hb2.size
  try simp at n2
  have rO2 : Hid (Rw w2 24 (w.heap.size + 1 + 1 + 1) [.int .u64 0, .int .u64 0, .int .u64 0, .int .u64 0]) := Lib.hid (by
   refine Rw.below ?_ hb2 (by first | (simp; done) | (simp; omega) | omega)
   repeat (first | with_reducible assumption | exact Rw.new (by first | rfl | (simp; done)) | with_reducible refine Rw.alloc ?_ _ | with_reducible refine Rw.drew ?_ | with_reducible refine Rw.drewN ?_ _))
  have rS2 : Hid (Rw w2 24 (w1.heap.size) [.int .u64 (wd0 s : Nat), .int .u64 (wd1 s : Nat), .int .u64 (wd2 s : Nat), .int .u64 (wd3 s : Nat)]) := Lib.hid (by
   refine Rw.below ?_ hb2 (by first | (simp; done) | (simp; omega) | omega)
   repeat (first | with_reducible assumption | exact Rw.new (by first | rfl | (simp; done)) | with_reducible refine Rw.alloc ?_ _ | with_reducible refine Rw.drew ?_ | with_reducible refine Rw.drewN ?_ _))
  have hB2 : Below w.heap.size w w2 := Below.trans (by
   repeat (first | exact Below.refl _ _ | (with_reducible assumption) | refine Below.drew ?_ | refine below_drewN ?_ _ | refine Below.alloc ?_ (by first | (simp; done) | (simp; omega) | omega) _ | refine Below.setCell ?_ (by first | (simp; omega) | omega) _)) (hb2.mono (by first | (simp; omega) | omega))
  clear hb2
  clear cM10 cM11 cM12 cM13 zM10 zM11 zM12 zM13 gM1 rM1 cO10 cO11 cO12 cO13 zO10 zO11 zO12 zO13 gO1 rO1 hB1
  replace rO2 := rO2.out
  obtain ⟨cO20, cO21, cO22, cO23⟩ := rO2.four
  have zO20 := rO2.free 0
  have zO21 := rO2.free 1
  have zO22 := rO2.free 2
  have zO23 := rO2.free 3
  have gO2 := rO2.size
  replace rS2 := rS2.out
  obtain ⟨cS20, cS21, cS22, cS23⟩ := rS2.four
  have zS20 := rS2.free 0
  have zS21 := rS2.free 1
  have zS22 := rS2.free 2
  have zS23 := rS2.free 3
  have gS2 := rS2.size
  go_upto_region 4 with fail
  refine wp_forget (fun x => Rw x 24 (w.heap.size + 1 + 1 + 1) [.int .u64 0, .int .u64 0, .int .u64 0, .int .u64 0] ∧ Rw x 24 (w1.heap.size) [.int .u64 (wd0 t : Nat), .int .u64 (wd1 t : Nat), .int .u64 (wd2 t : Nat), .int .u64 (wd3 t : Nat)] ∧ Below w.heap.size w x) ⟨Rw.other4 rO2 (by omega), Rw.set4 rS2, by repeat (first | exact Below.refl _ _ | (with_reducible assumption) | refine Below.drew ?_ | refine below_drewN ?_ _ | refine Below.alloc ?_ (by first | (simp; done) | (simp; omega) | omega) _ | refine Below.setCell ?_ (by first | (simp; omega) | omega) _)⟩ ?_
  rintro w3 ⟨rO3, rS3, hB3⟩
  clear cO20 cO21 cO22 cO23 zO20 zO21 zO22 zO23 gO2 rO2 cS20 cS21 cS22 cS23 zS20 zS21 zS22 zS23 gS2 rS2 hB2
  obtain ⟨cO30, cO31, cO32, cO33⟩ := rO3.four
  have zO30 := rO3.free 0
  have zO31 := rO3.free 1
  have zO32 := rO3.free 2
  have zO33 := rO3.free 3
  have gO3 := rO3.size
  obtain ⟨cS30, cS31, cS32, cS33⟩ := rS3.four
  have zS30 := rS3.free 0
  have zS31 := rS3.free 1
  have zS32 := rS3.free 2
  have zS33 := rS3.free 3
  have gS3 := rS3.size
  go_wp2
  refine bodyPost_ret (v := numV t) (results_num rfl rfl (Rw.set4 rO3)) rfl ⟨by rw [numV_def], ?_⟩
  repeat (first | exact Below.refl _ _ | (with_reducible assumption) | refine Below.drew ?_ | refine below_drewN ?_ _ | refine Below.alloc ?_ (by first | (simp; done) | (simp; omega) | omega) _ | refine Below.setCell ?_ (by first | (simp; omega) | omega) _)
 | false =>
  go_wp2_with fail
  refine (P2.out _).mono ?_
  rintro e w2 ⟨rfl, hb2⟩
  have n2 := hb2.size
  try simp at n2
  have rM2 : Hid (Rw w2 24 (w.heap.size + 1 + 1) [.int .u64 (wd0 m : Nat), .int .u64 (wd1 m : Nat), .int .u64 (wd2 m : Nat), .int .u64 (wd3 m : Nat)]) := Lib.hid (by
   refine Rw.below ?_ hb2 (by first | (simp; done) | (simp; omega) | omega)
   repeat (first | with_reducible assumption | exact Rw.new (by first | rfl | (simp; done)) | with_reducible refine Rw.alloc ?_ _ | with_reducible refine Rw.drew ?_ | with_reducible refine Rw.drewN ?_ _))
  have rO2 : Hid (Rw w2 24 (w.heap.size + 1 + 1 + 1) [.int .u64 0, .int .u64 0, .int .u64 0, .int .u64 0]) := Lib.hid (by
   refine Rw.below ?_ hb2 (by first | (simp; done) | (simp; omega) | omega)
   repeat (first | with_reducible assumption | exact Rw.new (by first | rfl | (simp; done)) | with_reducible refine Rw.alloc ?_ _ | with_reducible refine Rw.drew ?_ | with_reducible refine Rw.drewN ?_ _))
  have rS2 : Hid (Rw w2 24 (w1.heap.size) [.int .u64 (wd0 s : Nat), .int .u64 (wd1 s : Nat), .int .u64 (wd2 s : Nat), .int .u64 (wd3 s : Nat)]) := Lib.hid (by
   refine Rw.below ?_ hb2 (by first | (simp; done) | (simp; omega) | omega)
   repeat (first | with_reducible assumption | exact Rw.new (by first | rfl | (simp; done)) | with_reducible refine Rw.alloc ?_ _ | with_reducible refine Rw.drew ?_ | with_reducible refine Rw.drewN ?_ _))
  have hB2 : Below w.heap.size w w2 := Below.trans (by
   repeat (first | exact Below.refl _ _ | (with_reducible assumption) | refine Below.drew ?_ | refine below_drewN ?_ _ | refine Below.alloc ?_ (by first | (simp; done) | (simp; omega) | omega) _ | refine Below.setCell ?_ (by first | (simp; omega) | omega) _)) (hb2.mono (by first | (simp; omega) | omega))
  clear hb2
  clear cM10 cM11 cM12 cM13 zM10 zM11 zM12 zM13 gM1 rM1 cO10 cO11 cO12 cO13 zO10 zO11 zO12 zO13 gO1 rO1 hB1
  replace rM2 := rM2.out
  obtain ⟨cM20, cM21, cM22, cM23⟩ := rM2.four
  have zM20 := rM2.free 0
  have zM21 := rM2.free 1
  have zM22 := rM2.free 2
  have zM23 := rM2.free 3
  have gM2 := rM2.size
  replace rO2 := rO2.out
  obtain ⟨cO20, cO21, cO22, cO23⟩ := rO2.four
  have zO20 := rO2.free 0
  have zO21 := rO2.free 1
  have zO22 := rO2.free 2
  have zO23 := rO2.free 3
  have gO2 := rO2.size
  replace rS2 := rS2.out
  obtain ⟨cS20, cS21, cS22, cS23⟩ := rS2.four
  have zS20 := rS2.free 0
  have zS21 := rS2.free 1
  have zS22 := rS2.free 2
  have zS23 := rS2.free 3
  have gS2 := rS2.size
  cases L with
  | true =>
   have E := F2.out (by first | rfl | trivial) (by first | rfl | trivial)
   subst E
   clear F1 F2 F3
   go_wp2
   refine bodyPost_ret (v := numV s) (results_num rfl rfl (Rw.set4 rO2)) rfl ⟨by rw [numV_def], ?_⟩
   repeat (first | exact Below.refl _ _ | (with_reducible assumption) | refine Below.drew ?_ | refine below_drewN ?_ _ | refine Below.alloc ?_ (by first | (simp; done) | (simp; omega) | omega) _ | refine Below.setCell ?_ (by first | (simp; omega) | omega) _)
  | false =>
   have E := F3.out (by first | rfl | trivial) (by first | rfl | trivial)
   subst E
   clear F1 F2 F3
   go_wp2_with fail
   refine (P3.out _).mono ?_
   rintro e w3 ⟨rfl, hb3⟩
   have n3 := hb3.size
   try simp at n3
   have rO3 : Hid (Rw w3 24 (w.heap.size + 1 + 1 + 1) [.int .u64 0, .int .u64 0, .int .u64 0, .int .u64 0]) := Lib.hid (by
    refine Rw.below ?_ hb3 (by first | (simp; done) | (simp; omega) | omega)
    repeat (first | with_reducible assumption | exact Rw.new (by first | rfl | (simp; done)) | with_reducible refine Rw.alloc ?_ _ | with_reducible refine Rw.drew ?_ | with_reducible refine Rw.drewN ?_ _))
   have rS3 : Hid (Rw w3 24 (w1.heap.size) [.int .u64 (wd0 s : Nat), .int .u64 (wd1 s : Nat), .int .u64 (wd2 s : Nat), .int .u64 (wd3 s : Nat)]) := Lib.hid (by
    refine Rw.below ?_ hb3 (by first | (simp; done) | (simp; omega) | omega)
    repeat (first | with_reducible assumption | exact Rw.new (by first | rfl | (simp; done)) | with_reducible refine Rw.alloc ?_ _ | with_reducible refine Rw.drew ?_ | with_reducible refine Rw.drewN ?_ _))
   have hB3 : Below w.heap.size w w3 := Below.trans (by
    repeat (first | exact Below.refl _ _ | (with_reducible assumption) | refine Below.drew ?_ | refine below_drewN ?_ _ | refine Below.alloc ?_ (by first | (simp; done) | (simp; omega) | omega) _ | refine Below.setCell ?_ (by first | (simp; omega) | omega) _)) (hb3.mono (by first | (simp; omega) | omega))
   clear hb3
   clear cM20 cM21 cM22 cM23 zM20 zM21 zM22 zM23 gM2 rM2 cO20 cO21 cO22 cO23 zO20 zO21 zO22 zO23 gO2 rO2 cS20 cS21 cS22 cS23 zS20 zS21 zS22 zS23 gS2 rS2 hB2
   replace rO3 := rO3.out
   obtain ⟨cO30, cO31, cO32, cO33⟩ := rO3.four
   have zO30 := rO3.free 0
   have zO31 := rO3.free 1
   have zO32 := rO3.free 2
   have zO33 := rO3.free 3
   have gO3 := rO3.size
   replace rS3 := rS3.out
   obtain ⟨cS30, cS31, cS32, cS33⟩ := rS3.four
   have zS30 := rS3.free 0
   have zS31 := rS3.free 1
   have zS32 := rS3.free 2
   have zS33 := rS3.free 3
   have gS3 := rS3.size
   go_upto_region 4 with fail
   refine wp_forget (fun x => Rw x 24 (w.heap.size + 1 + 1 + 1) [.int .u64 0, .int .u64 0, .int .u64 0, .int .u64 0] ∧ Rw x 24 (w1.heap.size) [.int .u64 (wd0 t : Nat), .int .u64 (wd1 t : Nat), .int .u64 (wd2 t : Nat), .int .u64 (wd3 t : Nat)] ∧ Below w.heap.size w x) ⟨Rw.other4 rO3 (by omega), Rw.set4 rS3, by repeat (first | exact Below.refl _ _ | (with_reducible assumption) | refine Below.drew ?_ | refine below_drewN ?_ _ | refine Below.alloc ?_ (by first | (simp; done) | (simp; omega) | omega) _ | refine Below.setCell ?_ (by first | (simp; omega) | omega) _)⟩ ?_
   rintro w4 ⟨rO4, rS4, hB4⟩
   clear cO30 cO31 cO32 cO33 zO30 zO31 zO32 zO33 gO3 rO3 cS30 cS31 cS32 cS33 zS30 zS31 zS32 zS33 gS3 rS3 hB3
   obtain ⟨cO40, cO41, cO42, cO43⟩ := rO4.four
   have zO40 := rO4.free 0
   have zO41 := rO4.free 1
   have zO42 := rO4.free 2
   have zO43 := rO4.free 3
   have gO4 := rO4.size
   obtain ⟨cS40, cS41, cS42, cS43⟩ := rS4.four
   have zS40 := rS4.free 0
   have zS41 := rS4.free 1
   have zS42 := rS4.free 2
   have zS43 := rS4.free 3
   have gS4 := rS4.size
   go_wp2
   refine bodyPost_ret (v := numV t) (results_num rfl rfl (Rw.set4 rO4)) rfl ⟨by rw [numV_def], ?_⟩
   repeat (first | exact Below.refl _ _ | (with_reducible assumption) | refine Below.drew ?_ | refine below_drewN ?_ _ | refine Below.alloc ?_ (by first | (simp; done) | (simp; omega) | omega) _ | refine Below.setCell ?_ (by first | (simp; omega) | omega) _)
end Go.Proofs.Ytkfjhndofbmhoaa
