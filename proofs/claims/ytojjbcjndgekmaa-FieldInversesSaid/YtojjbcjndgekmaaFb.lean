/- The document's order and difference of two numbers, for the field: clapperref02.less, minus. No condition but that both are below 2^256. -/
import Derived.Test.YtojjbcjndgekmaaFa
import Derived.Test.YtojjbcjndgekmaaFm
import Derived.Deep.QuietTactic
import Derived.BigQuiet
import Derived.Deep.Cut
namespace Go.Proofs.Ytojjbcjndgekmaa
open Go.RowKit
set_option linter.unusedVariables false
set_option linter.unusedSimpArgs false

def lt2 (x y : Int) (r : Bool) : Bool := if x = y then r else decide (x < y)
theorem lt2_ne {x y : Int} {r : Bool} (h : ¬ x = y) : lt2 x y r = decide (x < y) := if_neg h
theorem lt2_eq {x y : Int} {r : Bool} (h : x = y) : lt2 x y r = r := if_pos h
set_option maxRecDepth 100000 in
set_option maxHeartbeats 1000000 in
theorem less_walk (x0 x1 x2 x3 y0 y1 y2 y3 : Int) (w : World) :
    Calls Try.prog 34 #[.agg #[.int .u64 x0, .int .u64 x1, .int .u64 x2, .int .u64 x3], .agg #[.int .u64 y0, .int .u64 y1, .int .u64 y2, .int .u64 y3]] w fun e w' =>
      e = .returned (.bool (lt2 x3 y3 (lt2 x2 y2 (lt2 x1 y1 (lt2 x0 y0 false))))) ∧ Below w.heap.size w w' := by
  go_enter Try.func34, Try.ntmps34
  go_wp2
  refine wp_loop_rounds 5 ?_
  rw [rounds_succ]
  go_wp2
  go_quiet (fail)
  by_cases n3 : x3 = y3
  case neg =>
    have HN := Lib.hid n3
    go_wp2
    go_quiet (fail)
    go_wp2
    go_ret
    exact ⟨ret_bool (by rw [lt2_ne HN.out]), by repeat (first | exact Below.refl _ _ | refine Below.drew ?_ | refine below_drewN ?_ _ | refine Below.alloc ?_ (by first | (simp; done) | (simp; omega)) _)⟩
  go_wp2
  rw [rounds_succ]
  go_wp2
  go_quiet (fail)
  by_cases n2 : x2 = y2
  case neg =>
    have HN := Lib.hid n2
    go_wp2
    go_quiet (fail)
    go_wp2
    go_ret
    exact ⟨ret_bool (by rw [lt2_eq n3, lt2_ne HN.out]), by repeat (first | exact Below.refl _ _ | refine Below.drew ?_ | refine below_drewN ?_ _ | refine Below.alloc ?_ (by first | (simp; done) | (simp; omega)) _)⟩
  go_wp2
  rw [rounds_succ]
  go_wp2
  go_quiet (fail)
  by_cases n1 : x1 = y1
  case neg =>
    have HN := Lib.hid n1
    go_wp2
    go_quiet (fail)
    go_wp2
    go_ret
    exact ⟨ret_bool (by rw [lt2_eq n3, lt2_eq n2, lt2_ne HN.out]), by repeat (first | exact Below.refl _ _ | refine Below.drew ?_ | refine below_drewN ?_ _ | refine Below.alloc ?_ (by first | (simp; done) | (simp; omega)) _)⟩
  go_wp2
  rw [rounds_succ]
  go_wp2
  go_quiet (fail)
  by_cases n0 : x0 = y0
  case neg =>
    have HN := Lib.hid n0
    go_wp2
    go_quiet (fail)
    go_wp2
    go_ret
    exact ⟨ret_bool (by rw [lt2_eq n3, lt2_eq n2, lt2_eq n1, lt2_ne HN.out]), by repeat (first | exact Below.refl _ _ | refine Below.drew ?_ | refine below_drewN ?_ _ | refine Below.alloc ?_ (by first | (simp; done) | (simp; omega)) _)⟩
  go_wp2
  rw [rounds_succ]
  go_wp2
  go_ret
  exact ⟨ret_bool (by rw [lt2_eq n3, lt2_eq n2, lt2_eq n1, lt2_eq n0]), by repeat (first | exact Below.refl _ _ | refine Below.drew ?_ | refine below_drewN ?_ _ | refine Below.alloc ?_ (by first | (simp; done) | (simp; omega)) _)⟩

/-- clapperref02.less -/
theorem less_calls {va vb : Value} {a b : Nat} (ha : IsNum va a) (hb : IsNum vb b) (w : World) :
    Calls Try.prog 34 #[va, vb] w fun e w' => e = .returned (.bool (decide (a < b))) ∧ Below w.heap.size w w' := by
  obtain ⟨rfl, ha⟩ := ha
  obtain ⟨rfl, hb⟩ := hb
  rw [numV_def, numV_def]
  refine (less_walk (wd0 a) (wd1 a) (wd2 a) (wd3 a) (wd0 b) (wd1 b) (wd2 b) (wd3 b) w).mono ?_
  rintro e w' ⟨rfl, hw⟩
  refine ⟨ret_bool ?_, hw⟩
  have a0 := wd0_lt a; have a1 := wd1_lt a; have a2 := wd2_lt a; have a3 := wd3_lt a
  have b0 := wd0_lt b; have b1 := wd1_lt b; have b2 := wd2_lt b; have b3 := wd3_lt b
  have ea := val_wd ha
  have eb := val_wd hb
  clear hw w w'
  generalize wd0 a = x0 at *
  generalize wd1 a = x1 at *
  generalize wd2 a = x2 at *
  generalize wd3 a = x3 at *
  generalize wd0 b = y0 at *
  generalize wd1 b = y1 at *
  generalize wd2 b = y2 at *
  generalize wd3 b = y3 at *
  unfold N64 at *
  unfold val4 at ea eb
  unfold lt2
  split
  · split
    · split
      · split
        · symm; simp only [decide_eq_false_iff_not]; omega
        · simp only [decide_eq_decide]; omega
      · simp only [decide_eq_decide]; omega
    · simp only [decide_eq_decide]; omega
  · simp only [decide_eq_decide]; omega

theorem one_num : numV 1 = .agg #[.int .u64 1, .int .u64 0, .int .u64 0, .int .u64 0] := rfl
theorem zero_num : numV 0 = .agg #[.int .u64 0, .int .u64 0, .int .u64 0, .int .u64 0] := rfl
theorem comp_wd {b : Nat} (hb : b < N256) : ∃ c, c < N256 ∧ c + b + 1 = N256 ∧ wd0 c = 18446744073709551615 - wd0 b ∧ wd1 c = 18446744073709551615 - wd1 b ∧ wd2 c = 18446744073709551615 - wd2 b ∧ wd3 c = 18446744073709551615 - wd3 b := by
  have b0 := wd0_lt b; have b1 := wd1_lt b; have b2 := wd2_lt b; have b3 := wd3_lt b
  have eb := val_wd hb
  generalize wd0 b = y0 at *
  generalize wd1 b = y1 at *
  generalize wd2 b = y2 at *
  generalize wd3 b = y3 at *
  have h0 : 18446744073709551615 - y0 < N64 := by unfold N64; omega
  have h1 : 18446744073709551615 - y1 < N64 := by unfold N64; omega
  have h2 : 18446744073709551615 - y2 < N64 := by unfold N64; omega
  have h3 : 18446744073709551615 - y3 < N64 := by unfold N64; omega
  refine ⟨val4 (18446744073709551615 - y0) (18446744073709551615 - y1) (18446744073709551615 - y2) (18446744073709551615 - y3), val4_lt h0 h1 h2 h3, ?_, wd0_val h0, wd1_val h0 h1, wd2_val h0 h1 h2, wd3_val h0 h1 h2 h3⟩
  rw [← eb]
  unfold val4 N256
  unfold N64 at *
  omega
theorem comp_wrap (y : Nat) (h : y < 18446744073709551616) : IntKind.u64.wrap (18446744073709551615 - (y : Int)) = ((18446744073709551615 - y : Nat) : Int) := by
  rw [IntKind.wrap_u64]; omega
set_option maxRecDepth 100000 in
set_option maxHeartbeats 2000000 in
/-- clapperref02.minus -/
theorem minus_calls {va vb : Value} {a b : Nat} (ha : IsNum va a) (hb : IsNum vb b) (w : World) :
    Calls Try.prog 35 #[va, vb] w fun e w' => e = .returned (numV ((a + N256 - b) % N256)) ∧ Below w.heap.size w w' := by
  obtain ⟨rfl, ha⟩ := ha
  obtain ⟨rfl, hb⟩ := hb
  obtain ⟨c, hc, hcb, d0, d1, d2, d3⟩ := comp_wd hb
  have p1 := fun w => plus_calls (IsNum.mk ha) (IsNum.mk hc) w
  obtain ⟨s, hs⟩ : ∃ s, (a + c) % N256 = s := ⟨_, rfl⟩
  rw [hs] at p1
  have hs' : s < N256 := by rw [← hs]; exact Nat.mod_lt _ N256_pos
  have p2 := fun w => plus_calls (IsNum.mk hs') (IsNum.mk (a := 1) (by decide)) w
  have e : (s + 1) % N256 = (a + N256 - b) % N256 := by
    rw [← hs, Nat.mod_add_mod, show a + c + 1 = a + N256 - b by omega]
  rw [e, one_num] at p2
  clear e hs' hs hcb hc ha hb
  rw [numV_def a, numV_def c, d0, d1, d2, d3] at p1
  clear d0 d1 d2 d3
  have w0 := comp_wrap _ (wd0_lt b)
  have w1 := comp_wrap _ (wd1_lt b)
  have w2 := comp_wrap _ (wd2_lt b)
  have w3 := comp_wrap _ (wd3_lt b)
  rw [numV_def a, numV_def b]
  generalize (a + N256 - b) % N256 = r at *
  generalize wd0 b = y0 at *
  generalize wd1 b = y1 at *
  generalize wd2 b = y2 at *
  generalize wd3 b = y3 at *
  generalize 18446744073709551615 - y0 = z0 at *
  generalize 18446744073709551615 - y1 = z1 at *
  generalize 18446744073709551615 - y2 = z2 at *
  generalize 18446744073709551615 - y3 = z3 at *
  rw [numV_def s] at p1 p2
  rw [numV_def r] at p2
  rw [numV_def r]
  have P1 := Lib.hid p1; have P2 := Lib.hid p2
  clear p1 p2
  go_enter Try.func35, Try.ntmps35
  go_wp2
  refine wp_loop_rounds 5 ?_
  rw [rounds_succ]
  go_wp2
  rw [rounds_succ]
  go_wp2
  rw [rounds_succ]
  go_wp2
  rw [rounds_succ]
  go_wp2
  rw [rounds_succ]
  go_wp2_with fail
  refine (P1.out _).mono ?_
  rintro e w1 ⟨rfl, hb1⟩
  have n1 := hb1.size
  simp at n1
  go_wp2_with fail
  refine (P2.out _).mono ?_
  rintro e w2 ⟨rfl, hb2⟩
  have n2 := hb2.size
  simp at n2
  have rA : Rw w2 24 (w.heap.size + 1 + 1) [.int .u64 0, .int .u64 0, .int .u64 0, .int .u64 0] := by
    refine Rw.below ?_ hb2 (by simp; omega)
    refine Rw.alloc ?_ _
    refine Rw.below ?_ hb1 (by simp)
    exact Rw.new (by simp)
  obtain ⟨cA0, cA1, cA2, cA3⟩ := rA.four
  have zA0 := rA.free 0
  have zA1 := rA.free 1
  have zA2 := rA.free 2
  have zA3 := rA.free 3
  have gA := rA.size
  have rB : Rw w2 24 (w1.heap.size) [.int .u64 (wd0 s : Nat), .int .u64 (wd1 s : Nat), .int .u64 (wd2 s : Nat), .int .u64 (wd3 s : Nat)] := by
    refine Rw.below ?_ hb2 (by simp)
    exact Rw.new (by simp)
  obtain ⟨cB0, cB1, cB2, cB3⟩ := rB.four
  have zB0 := rB.free 0
  have zB1 := rB.free 1
  have zB2 := rB.free 2
  have zB3 := rB.free 3
  have gB := rB.size
  have hB : Below w.heap.size w w2 := by
    have h1 : Below w.heap.size w w1 := Below.trans (by repeat (first | exact Below.refl _ _ | (with_reducible assumption) | refine Below.drew ?_ | refine below_drewN ?_ _ | refine Below.alloc ?_ (by first | (simp; done) | (simp; omega)) _ | refine Below.setCell ?_ (by simp; omega) _)) (hb1.mono (by simp; omega))
    exact Below.trans (h1.alloc (by omega) _) (hb2.mono (by simp; omega))
  clear hb1 hb2
  go_upto_region 7 with fail
  refine wp_forget (fun x => Rw x 24 (w.heap.size + 1 + 1) [.int .u64 0, .int .u64 0, .int .u64 0, .int .u64 0] ∧ Rw x 24 w1.heap.size [.int .u64 (wd0 r : Nat), .int .u64 (wd1 r : Nat), .int .u64 (wd2 r : Nat), .int .u64 (wd3 r : Nat)] ∧ Below w.heap.size w x) ⟨Rw.other4 rA (by omega), Rw.set4 rB, by repeat (first | exact Below.refl _ _ | (with_reducible assumption) | refine Below.drew ?_ | refine below_drewN ?_ _ | refine Below.alloc ?_ (by first | (simp; done) | (simp; omega)) _ | refine Below.setCell ?_ (by simp; omega) _)⟩ ?_
  rintro w3 ⟨rA3, rB3, hB3⟩
  clear cA0 cA1 cA2 cA3 zA0 zA1 zA2 zA3 cB0 cB1 cB2 cB3 zB0 zB1 zB2 zB3 gA gB rA rB hB n2
  obtain ⟨cA0, cA1, cA2, cA3⟩ := rA3.four
  have zA0 := rA3.free 0
  have zA1 := rA3.free 1
  have zA2 := rA3.free 2
  have zA3 := rA3.free 3
  have gA := rA3.size
  obtain ⟨cB0, cB1, cB2, cB3⟩ := rB3.four
  have gB := rB3.size
  go_wp2
  refine bodyPost_ret (v := numV r) (results_num rfl rfl (Rw.set4 rA3)) rfl ⟨by rw [numV_def], ?_⟩
  repeat (first | exact Below.refl _ _ | (with_reducible assumption) | refine Below.drew ?_ | refine below_drewN ?_ _ | refine Below.alloc ?_ (by first | (simp; done) | (simp; omega)) _ | refine Below.setCell ?_ (by simp; omega) _)
end Go.Proofs.Ytojjbcjndgekmaa
