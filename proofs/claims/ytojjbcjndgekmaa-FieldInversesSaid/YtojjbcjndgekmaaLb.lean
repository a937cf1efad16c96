/- One number held against another: limb.Cmp, by its contract. No condition but that both are below 2^256. -/
import Derived.Test.YtojjbcjndgekmaaNum
import Derived.Deep.QuietTactic
import Derived.BigQuiet
import Derived.BigRegion
namespace Go.Proofs.Ytojjbcjndgekmaa
open Go.RowKit
set_option linter.unusedVariables false
set_option linter.unusedSimpArgs false

def cmp2 (x y : Int) (r : Int) : Int := if x < y then -1 else if y < x then 1 else r
theorem cmp2_lt {x y r : Int} (h : x < y) : cmp2 x y r = -1 := by unfold cmp2; rw [if_pos h]
theorem cmp2_gt {x y r : Int} (h : y ≤ x) (h' : y < x) : cmp2 x y r = 1 := by unfold cmp2; rw [if_neg (by omega), if_pos h']
theorem cmp2_eq {x y r : Int} (h : y ≤ x) (h' : x ≤ y) : cmp2 x y r = r := by unfold cmp2; rw [if_neg (by omega), if_neg (by omega)]
set_option maxRecDepth 100000 in
set_option maxHeartbeats 400000 in
theorem cmp_walk (x0 x1 x2 x3 y0 y1 y2 y3 : Int) (w : World) :
    Calls Try.prog 31 #[.agg #[.int .u64 x0, .int .u64 x1, .int .u64 x2, .int .u64 x3], .agg #[.int .u64 y0, .int .u64 y1, .int .u64 y2, .int .u64 y3]] w fun e w' =>
      e = .returned (.int .i64 (cmp2 x3 y3 (cmp2 x2 y2 (cmp2 x1 y1 (cmp2 x0 y0 0))))) ∧ Below w.heap.size w w' := by
  go_enter Try.func31, Try.ntmps31
  go_wp2
  refine wp_loop_rounds 5 ?_
  rw [rounds_succ]
  go_wp2
  go_quiet (fail)
  go_wp2
  · have h : x3 < y3 := by assumption
    go_ret
    exact ⟨ret_int (by rw [cmp2_lt h]), by repeat (first | exact Below.refl _ _ | refine Below.drew ?_ | refine below_drewN ?_ _ | refine Below.alloc ?_ (by first | (simp; done) | (simp; omega)) _)⟩
  have n3 : y3 ≤ x3 := by omega
  go_quiet (fail)
  go_wp2
  · have h : y3 < x3 := by assumption
    go_ret
    exact ⟨ret_int (by rw [cmp2_gt n3 h]), by repeat (first | exact Below.refl _ _ | refine Below.drew ?_ | refine below_drewN ?_ _ | refine Below.alloc ?_ (by first | (simp; done) | (simp; omega)) _)⟩
  have m3 : x3 ≤ y3 := by omega
  rw [rounds_succ]
  go_wp2
  go_quiet (fail)
  go_wp2
  · have h : x2 < y2 := by assumption
    go_ret
    exact ⟨ret_int (by rw [cmp2_eq n3 m3, cmp2_lt h]), by repeat (first | exact Below.refl _ _ | refine Below.drew ?_ | refine below_drewN ?_ _ | refine Below.alloc ?_ (by first | (simp; done) | (simp; omega)) _)⟩
  have n2 : y2 ≤ x2 := by omega
  go_quiet (fail)
  go_wp2
  · have h : y2 < x2 := by assumption
    go_ret
    exact ⟨ret_int (by rw [cmp2_eq n3 m3, cmp2_gt n2 h]), by repeat (first | exact Below.refl _ _ | refine Below.drew ?_ | refine below_drewN ?_ _ | refine Below.alloc ?_ (by first | (simp; done) | (simp; omega)) _)⟩
  have m2 : x2 ≤ y2 := by omega
  rw [rounds_succ]
  go_wp2
  go_quiet (fail)
  go_wp2
  · have h : x1 < y1 := by assumption
    go_ret
    exact ⟨ret_int (by rw [cmp2_eq n3 m3, cmp2_eq n2 m2, cmp2_lt h]), by repeat (first | exact Below.refl _ _ | refine Below.drew ?_ | refine below_drewN ?_ _ | refine Below.alloc ?_ (by first | (simp; done) | (simp; omega)) _)⟩
  have n1 : y1 ≤ x1 := by omega
  go_quiet (fail)
  go_wp2
  · have h : y1 < x1 := by assumption
    go_ret
    exact ⟨ret_int (by rw [cmp2_eq n3 m3, cmp2_eq n2 m2, cmp2_gt n1 h]), by repeat (first | exact Below.refl _ _ | refine Below.drew ?_ | refine below_drewN ?_ _ | refine Below.alloc ?_ (by first | (simp; done) | (simp; omega)) _)⟩
  have m1 : x1 ≤ y1 := by omega
  rw [rounds_succ]
  go_wp2
  go_quiet (fail)
  go_wp2
  · have h : x0 < y0 := by assumption
    go_ret
    exact ⟨ret_int (by rw [cmp2_eq n3 m3, cmp2_eq n2 m2, cmp2_eq n1 m1, cmp2_lt h]), by repeat (first | exact Below.refl _ _ | refine Below.drew ?_ | refine below_drewN ?_ _ | refine Below.alloc ?_ (by first | (simp; done) | (simp; omega)) _)⟩
  have n0 : y0 ≤ x0 := by omega
  go_quiet (fail)
  go_wp2
  · have h : y0 < x0 := by assumption
    go_ret
    exact ⟨ret_int (by rw [cmp2_eq n3 m3, cmp2_eq n2 m2, cmp2_eq n1 m1, cmp2_gt n0 h]), by repeat (first | exact Below.refl _ _ | refine Below.drew ?_ | refine below_drewN ?_ _ | refine Below.alloc ?_ (by first | (simp; done) | (simp; omega)) _)⟩
  have m0 : x0 ≤ y0 := by omega
  rw [rounds_succ]
  go_wp2
  go_ret
  exact ⟨ret_int (by unfold cmp2; rw [if_neg (by omega), if_neg (by omega), if_neg (by omega), if_neg (by omega), if_neg (by omega), if_neg (by omega), if_neg (by omega), if_neg (by omega)]), by repeat (first | exact Below.refl _ _ | refine Below.drew ?_ | refine below_drewN ?_ _ | refine Below.alloc ?_ (by first | (simp; done) | (simp; omega)) _)⟩

def cmpI (a b : Nat) : Int := if a < b then -1 else if b < a then 1 else 0
/-- limb.Cmp -/
theorem cmp_calls {va vb : Value} {a b : Nat} (ha : IsNum va a) (hb : IsNum vb b) (w : World) :
    Calls Try.prog 31 #[va, vb] w fun e w' => e = .returned (.int .i64 (cmpI a b)) ∧ Below w.heap.size w w' := by
  obtain ⟨rfl, ha⟩ := ha
  obtain ⟨rfl, hb⟩ := hb
  rw [numV_def, numV_def]
  refine (cmp_walk (wd0 a) (wd1 a) (wd2 a) (wd3 a) (wd0 b) (wd1 b) (wd2 b) (wd3 b) w).mono ?_
  rintro e w' ⟨rfl, hw⟩
  refine ⟨?_, hw⟩
  have a0 := wd0_lt a; have a1 := wd1_lt a; have a2 := wd2_lt a; have a3 := wd3_lt a
  have b0 := wd0_lt b; have b1 := wd1_lt b; have b2 := wd2_lt b; have b3 := wd3_lt b
  have ea := val_wd ha
  have eb := val_wd hb
  clear hw w w'
  generalize wd0 a = x0 at *
  generalize wd1 a = x1 at *
  generalize wd2 a = x2 at *
  generalize wd3 a = x3 at *
  generalize wd0 b = y0 at *
  generalize wd1 b = y1 at *
  generalize wd2 b = y2 at *
  generalize wd3 b = y3 at *
  unfold N64 at *
  unfold val4 at ea eb
  unfold cmp2 cmpI
  congr 2
  split
  · rw [if_pos (by omega)]
  split
  · rw [if_neg (by omega), if_pos (by omega)]
  split
  · rw [if_pos (by omega)]
  split
  · rw [if_neg (by omega), if_pos (by omega)]
  split
  · rw [if_pos (by omega)]
  split
  · rw [if_neg (by omega), if_pos (by omega)]
  split
  · rw [if_pos (by omega)]
  split
  · rw [if_neg (by omega), if_pos (by omega)]
  rw [if_neg (by omega), if_neg (by omega)]
end Go.Proofs.Ytojjbcjndgekmaa
