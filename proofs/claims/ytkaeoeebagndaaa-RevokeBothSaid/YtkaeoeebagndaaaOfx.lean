-- Laid by a program of the session (mkprint2.py): the kit's printer, and contracts by hand among what it prints.
import Derived.Test.YtkaeoeebagndaaaPRevokeBothx0
import Derived.Test.YtkaeoeebagndaaaPRevokeBothx2
import Derived.Test.YtkaeoeebagndaaaPRevokeBothx3
import Derived.Test.YtkaeoeebagndaaaPRevokeBothx4
import Derived.Test.YtkaeoeebagndaaaPRevokeBothx5
import Derived.Test.YtkaeoeebagndaaaPRevokeBothx6
namespace Go.Proofs.Ytkaeoeebagndaaa.PRevokeBoth
open Go.RowKit Go.Proofs.YtkaeoeebagndaaaW.PrintWords Go.Proofs.YtkaeoeebagndaaaW.PrintLast Go.Proofs.YtkaeoeebagndaaaW.PrintMore
attribute [local go_sem] max2_int min2_int max_two min_two max_three min_three max_four min_four   -- for this text's walks alone
set_option linter.unusedVariables false
set_option linter.unusedSimpArgs false

attribute [local go_sem high] u8_w cast_tmod eql_code neq_code eql_code_nil neq_code_nil eql_nil_code neq_nil_code
/-! ### tlv_Of: function 27 -/
def tlv_Of.l0 : Nat → Int → List Int → Int → Int → Option (Int × Option Int)
  | 0, _, _, _, _ => none
  | k + 1, x4, x11, x12, x13 => if x13 < x12 then (if 0 ≤ x13 then (if x13 < (x11.length : Int) then (tlv_Of.l0 k (Go.bits .or .u64 (IntKind.u64.wrap (x4 * 256)) (IntKind.u64.wrap (rd x11 x13))) x11 x12 (wrap64 (x13 + 1))) else (none)) else (none)) else (if x4 > 9223372036854775807 then (some (0, some 2)) else (some (wrap64 (x4), none)))
def tlv_Of.f (k : Nat) (l0 : List Int) : Option (Int × Option Int) := if (l0.length : Int) = 8 then (tlv_Of.l0 k 0 l0 (l0.length : Int) 0) else (some (0, some 2))
theorem tlv_Of.mono_l : ∀ k, (∀ y0 y1 y2 y3, LeO (tlv_Of.l0 k y0 y1 y2 y3) (tlv_Of.l0 (k + 1) y0 y1 y2 y3))
  | 0 => fun _ _ _ _ r h => by simp [tlv_Of.l0] at h
  | k + 1 => by
    have ih0 := tlv_Of.mono_l k
    · intro y0 y1 y2 y3
      unfold tlv_Of.l0
      repeat' first
      | (with_reducible exact ih0 _ _ _ _)
      | (with_reducible exact LeO.refl _)
      | (with_reducible exact LeO.none _)
      | (with_reducible refine LeO.ite ?_ ?_)
      | (with_reducible refine LeO.bind ?_ (fun _ => ?_))
      | exact ih0 _ _ _ _
      | exact LeO.none _
      | refine LeO.ite ?_ ?_
      | refine LeO.bind ?_ (fun _ => ?_)
theorem tlv_Of.mono : ∀ a0 k, LeO (tlv_Of.f k a0) (tlv_Of.f (k + 1) a0) := by
  intro a0 k
  have ih0 := tlv_Of.mono_l k
  unfold tlv_Of.f
  repeat' first
      | (with_reducible exact ih0 _ _ _ _)
      | (with_reducible exact LeO.refl _)
      | (with_reducible exact LeO.none _)
      | (with_reducible refine LeO.ite ?_ ?_)
      | (with_reducible refine LeO.bind ?_ (fun _ => ?_))
      | exact ih0 _ _ _ _
      | exact LeO.none _
      | refine LeO.ite ?_ ?_
      | refine LeO.bind ?_ (fun _ => ?_)
set_option maxHeartbeats 8000000 in
set_option maxRecDepth 100000 in
theorem tlv_Of.calls (k : Nat) (A0 : Option Addr) (c0 : Nat) (l0 : List Int) (r1 : Int) (r2 : Option Int) (w : World) (hr0 : Kd.C (Kd.int .u8) w A0 l0.length l0) (hc0 : l0.length ≤ c0) (h : tlv_Of.f k l0 = some (r1, r2)) :
    Calls Try.prog 27 #[.slice A0 l0.length c0] w fun e w' => e = .returned (.tuple #[.int .i64 r1, errW r2]) ∧ Drawn0 w w' := by
  have hu25 := Try.underlying25
  have hu29 := Try.underlying29
  have HR0 := Aside0.mk hr0
  have HC0 := Aside0.mk hc0
  clear hr0 hc0
  have H : (if (l0.length : Int) = 8 then (tlv_Of.l0 k 0 l0 (l0.length : Int) 0) else (some (0, some 2))) = some (r1, r2) := h
  clear h
  by_cases c2 : (l0.length : Int) = 8
  · rw [if_pos c2] at H
    have c2b0 : ((l0.length : Int) == 8) = true := beq_iff_eq.mpr c2
    have c2b1 : ((l0.length : Int) != 8) = false := bne_eq_false_iff_eq.mpr c2
    clear c2
    have H' := Aside0.mk H
    clear H
    go_enter Try.func27, Try.ntmps27
    go_wp2
    go_loopg [4, 13] k (fun kq v4 v13 w' => ∃ (x4_1 : Int) (x13_1 : Int), v4 = .int .u64 x4_1 ∧ v13 = .int .i64 x13_1 ∧ Aside0 (tlv_Of.l0 kq x4_1 l0 (l0.length : Int) x13_1 = some (r1, r2)) ∧ Aside0 (kq ≤ k) ∧ Drawn0 w w')
    case atStart => exact ⟨(0), (0), (by first | rfl | (simp; done) | (simp [*]; done)), (by first | rfl | (simp; done) | (simp [*]; done)), H', ⟨Nat.le_refl _⟩, by repeat (first | exact Drawn0.refl _ | apply Drawn0.step)⟩
    case round =>
      clear H'
      try clear c2
      try clear c2b0
      try clear c2b1
      try clear p2
      obtain ⟨x4_1, x13_1, rfl, rfl, HA, HK1, ⟨m1, rfl⟩⟩ := hrel
      cases gk with
      | zero => exact absurd HA.out (by simp [tlv_Of.l0])
      | succ k1 =>
        have H := HA.out
        clear HA
        simp only [tlv_Of.l0] at H
        by_cases c3 : x13_1 < (l0.length : Int)
        · rw [if_pos c3] at H
          have c3b0 : decide (x13_1 < (l0.length : Int)) = true := decide_eq_true c3
          clear c3
          by_cases c4 : 0 ≤ x13_1
          · rw [if_pos c4] at H
            have c4b0 : decide (0 ≤ x13_1) = true := decide_eq_true c4
            clear c4
            by_cases c5 : x13_1 < (l0.length : Int)
            · rw [if_pos c5] at H
              have c5b0 : decide (x13_1 < (l0.length : Int)) = true := decide_eq_true c5
              clear c5
              have H' := Aside0.mk H
              clear H
              have p221 : 0 ≤ (x13_1 : Int) := of_decide_eq_true (by first | (with_reducible assumption) | assumption)
              have q221 : x13_1 < (l0.length : Int) := of_decide_eq_true (by first | (with_reducible assumption) | assumption)
              obtain ⟨ad221, e221, hx221_0⟩ := Kd.at_int HR0.out x13_1 p221 q221
              cases e221
              replace p221 := eq_true p221
              replace q221 := eq_true q221
              go_wp2
              go_roundg k1
              case measure => have := HK1.out; omega
              case rel => exact ⟨(Go.bits .or .u64 (IntKind.u64.wrap (x4_1 * 256)) (IntKind.u64.wrap (rd l0 x13_1))), (wrap64 (x13_1 + 1)), (by first | rfl | (simp; done) | (simp [*]; done)), (by first | rfl | (simp; done) | (simp [*]; done)), H', ⟨by have := HK1.out; omega⟩, by repeat (first | exact Drawn0.refl _ | apply Drawn0.step)⟩
            · rw [if_neg c5] at H
              exact absurd H (by simp)
          · rw [if_neg c4] at H
            exact absurd H (by simp)
        · rw [if_neg c3] at H
          have c3b0 : decide (x13_1 < (l0.length : Int)) = false := decide_eq_false c3
          clear c3
          by_cases c6 : x4_1 > 9223372036854775807
          · rw [if_pos c6] at H
            have c6b0 : decide (9223372036854775807 < x4_1) = true := decide_eq_true c6
            clear c6
            simp only [Option.some.injEq, Prod.mk.injEq] at H
            obtain ⟨rfl, rfl⟩ := H
            go_wp2
            go_ret2
            exact ⟨by first | rfl | (simp; done) | (simp [*]; done), by repeat (first | exact Drawn0.refl _ | apply Drawn0.step)⟩
          · rw [if_neg c6] at H
            have c6b0 : decide (9223372036854775807 < x4_1) = false := decide_eq_false c6
            clear c6
            simp only [Option.some.injEq, Prod.mk.injEq] at H
            obtain ⟨rfl, rfl⟩ := H
            go_wp2
            go_ret2
            exact ⟨by first | rfl | (simp; done) | (simp [*]; done), by repeat (first | exact Drawn0.refl _ | apply Drawn0.step)⟩
  · rw [if_neg c2] at H
    have c2b0 : ((l0.length : Int) == 8) = false := beq_eq_false_iff_ne.mpr c2
    have c2b1 : ((l0.length : Int) != 8) = true := bne_iff_ne.mpr c2
    simp only [Option.some.injEq, Prod.mk.injEq] at H
    obtain ⟨rfl, rfl⟩ := H
    go_enter Try.func27, Try.ntmps27
    go_wp2
    go_ret2
    exact ⟨by first | rfl | (simp; done) | (simp [*]; done), by repeat (first | exact Drawn0.refl _ | apply Drawn0.step)⟩

end Go.Proofs.Ytkaeoeebagndaaa.PRevokeBoth
