/- What the proof of RevokeTells is made of, part 9. -/
import Derived.Test.YtkaeoeebagndaaaZRevokeTells4
import Derived.Test.YtkaeoeebagndaaaZRevokeTells5
import Derived.Test.YtkaeoeebagndaaaZRevokeTells8
import Derived.Test.YtkaeoeebagndaaaZRevokeTells7
namespace Go.Proofs.Ytkaeoeebagndaaa.PRevokeTells
open Go.RowKit Go.Proofs.YtkaeoeebagndaaaW.PrintWords Go.Proofs.YtkaeoeebagndaaaW.PrintLast Go.Proofs.YtkaeoeebagndaaaW.PrintMore
attribute [local go_sem] max2_int min2_int max_two min_two max_three min_three max_four min_four   -- for this text's walks alone
set_option linter.unusedVariables false
set_option linter.unusedSimpArgs false
attribute [local go_sem high] u8_w cast_tmod eql_code neq_code eql_code_nil neq_code_nil eql_nil_code neq_nil_code
def tlv_Of.l0 : Nat → Int → List Int → Int → Int → Option (Int × Option Int)
 | 0, _, _, _, _ => none
 | k + 1, x4, x11, x12, x13 => if x13 < x12 then (if 0 ≤ x13 then (if x13 < (x11.length : Int) then (tlv_Of.l0 k (Go.bits .or .u64 (IntKind.u64.wrap (x4 * 256)) (IntKind.u64.wrap (rd x11 x13))) x11 x12 (wrap64 (x13 + 1))) else (none)) else (none)) else (if x4 > 9223372036854775807 then (some (0, some 2)) else (some (wrap64 (x4), none)))
def tlv_Of.f (k : Nat) (l0 : List Int) : Option (Int × Option Int) := if (l0.length : Int) = 8 then (tlv_Of.l0 k 0 l0 (l0.length : Int) 0) else (some (0, some 2))
theorem tlv_Of.mono_l : ∀ k, (∀ y0 y1 y2 y3, LeO (tlv_Of.l0 k y0 y1 y2 y3) (tlv_Of.l0 (k + 1) y0 y1 y2 y3))
 | 0 => fun _ _ _ _ r h => by simp [tlv_Of.l0] at h
 | k + 1 => by
  have ih0 := tlv_Of.mono_l k
  ·intro y0 y1 y2 y3
   unfold tlv_Of.l0
   repeat' first
   | (with_reducible exact ih0 _ _ _ _)
   | (with_reducible exact LeO.refl _)
   | (with_reducible exact LeO.none _)
   | (with_reducible refine LeO.ite ?_ ?_)
   | (with_reducible refine LeO.bind ?_ (fun _ => ?_))
   | exact ih0 _ _ _ _
   | exact LeO.none _
   | refine LeO.ite ?_ ?_
   | refine LeO.bind ?_ (fun _ => ?_)
theorem tlv_Of.mono : ∀ a0 k, LeO (tlv_Of.f k a0) (tlv_Of.f (k + 1) a0) := by
 intro a0 k
 have ih0 := tlv_Of.mono_l k
 unfold tlv_Of.f
 repeat' first
   | (with_reducible exact ih0 _ _ _ _)
   | (with_reducible exact LeO.refl _)
   | (with_reducible exact LeO.none _)
   | (with_reducible refine LeO.ite ?_ ?_)
   | (with_reducible refine LeO.bind ?_ (fun _ => ?_))
   | exact ih0 _ _ _ _
   | exact LeO.none _
   | refine LeO.ite ?_ ?_
   | refine LeO.bind ?_ (fun _ => ?_)
set_option maxHeartbeats 8000000 in
set_option maxRecDepth 100000 in
theorem tlv_Of.calls (k : Nat) (A0 : Option Addr) (c0 : Nat) (l0 : List Int) (r1 : Int) (r2 : Option Int) (w : World) (hr0 : Kd.C (Kd.int .u8) w A0 l0.length l0) (hc0 : l0.length ≤ c0) (h : tlv_Of.f k l0 = some (r1, r2)) :
  Calls Try.prog 27 #[.slice A0 l0.length c0] w fun e w' => e = .returned (.tuple #[.int .i64 r1, errW r2]) ∧ Drawn0 w w' := by
 have hu25 := Try.underlying25
 have hu29 := Try.underlying29
 have HR0 := Aside0.mk hr0
 have HC0 := Aside0.mk hc0
 clear hr0 hc0
 have H : (if (l0.length : Int) = 8 then (tlv_Of.l0 k 0 l0 (l0.length : Int) 0) else (some (0, some 2))) = some (r1, r2) := h
 clear h
 by_cases c2 : (l0.length : Int) = 8
 ·rw [if_pos c2] at H
  have c2b0 : ((l0.length : Int) == 8) = true := beq_iff_eq.mpr c2
  have c2b1 : ((l0.length : Int) != 8) = false := bne_eq_false_iff_eq.mpr c2
  clear c2
  have H' := Aside0.mk H
  clear H
  go_enter Try.func27, Try.ntmps27
  go_wp2
  go_loopg [4, 13] k (fun kq v4 v13 w' => ∃ (x4_1 : Int) (x13_1 : Int), v4 = .int .u64 x4_1 ∧ v13 = .int .i64 x13_1 ∧ Aside0 (tlv_Of.l0 kq x4_1 l0 (l0.length : Int) x13_1 = some (r1, r2)) ∧ Aside0 (kq ≤ k) ∧ Drawn0 w w')
  case atStart => exact ⟨(0), (0), (by first | rfl | (simp; done) | (simp [*]; done)), (by first | rfl | (simp; done) | (simp [*]; done)), H', ⟨Nat.le_refl _⟩, by repeat (first | exact Drawn0.refl _ | apply Drawn0.step)⟩
  case round =>
   clear H'
   try clear c2
   try clear c2b0
   try clear c2b1
   try clear p2
   obtain ⟨x4_1, x13_1, rfl, rfl, HA, HK1, ⟨m1, rfl⟩⟩ := hrel
   cases gk with
   | zero => exact absurd HA.out (by simp [tlv_Of.l0])
   | succ k1 =>
    have H := HA.out
    clear HA
    simp only [tlv_Of.l0] at H
    by_cases c3 : x13_1 < (l0.length : Int)
    ·rw [if_pos c3] at H
     have c3b0 : decide (x13_1 < (l0.length : Int)) = true := decide_eq_true c3
     clear c3
     by_cases c4 : 0 ≤ x13_1
     ·rw [if_pos c4] at H
      have c4b0 : decide (0 ≤ x13_1) = true := decide_eq_true c4
      clear c4
      by_cases c5 : x13_1 < (l0.length : Int)
      ·rw [if_pos c5] at H
       have c5b0 : decide (x13_1 < (l0.length : Int)) = true := decide_eq_true c5
       clear c5
       have H' := Aside0.mk H
       clear H
       have p193 : 0 ≤ (x13_1 : Int) := of_decide_eq_true (by first | (with_reducible assumption) | assumption)
       have q193 : x13_1 < (l0.length : Int) := of_decide_eq_true (by first | (with_reducible assumption) | assumption)
       obtain ⟨ad193, e193, hx193_0⟩ := Kd.at_int HR0.out x13_1 p193 q193
       cases e193
       replace p193 := eq_true p193
       replace q193 := eq_true q193
       go_wp2
       go_roundg k1
       case measure => have := HK1.out; omega
       case rel => exact ⟨(Go.bits .or .u64 (IntKind.u64.wrap (x4_1 * 256)) (IntKind.u64.wrap (rd l0 x13_1))), (wrap64 (x13_1 + 1)), (by first | rfl | (simp; done) | (simp [*]; done)), (by first | rfl | (simp; done) | (simp [*]; done)), H', ⟨by have := HK1.out; omega⟩, by repeat (first | exact Drawn0.refl _ | apply Drawn0.step)⟩
      ·rw [if_neg c5] at H
       exact absurd H (by simp)
     ·rw [if_neg c4] at H
      exact absurd H (by simp)
    ·rw [if_neg c3] at H
     have c3b0 : decide (x13_1 < (l0.length : Int)) = false := decide_eq_false c3
     clear c3
     by_cases c6 : x4_1 > 9223372036854775807
     ·rw [if_pos c6] at H
      have c6b0 : decide (9223372036854775807 < x4_1) = true := decide_eq_true c6
      clear c6
      simp only [Option.some.injEq, Prod.mk.injEq] at H
      obtain ⟨rfl, rfl⟩ := H
      go_wp2
      go_ret2
      exact ⟨by first | rfl | (simp; done) | (simp [*]; done), by repeat (first | exact Drawn0.refl _ | apply Drawn0.step)⟩
     ·rw [if_neg c6] at H
      have c6b0 : decide (9223372036854775807 < x4_1) = false := decide_eq_false c6
      clear c6
      simp only [Option.some.injEq, Prod.mk.injEq] at H
      obtain ⟨rfl, rfl⟩ := H
      go_wp2
      go_ret2
      exact ⟨by first | rfl | (simp; done) | (simp [*]; done), by repeat (first | exact Drawn0.refl _ | apply Drawn0.step)⟩
 ·rw [if_neg c2] at H
  have c2b0 : ((l0.length : Int) == 8) = false := beq_eq_false_iff_ne.mpr c2
  have c2b1 : ((l0.length : Int) != 8) = true := bne_iff_ne.mpr c2
  simp only [Option.some.injEq, Prod.mk.injEq] at H
  obtain ⟨rfl, rfl⟩ := H
  go_enter Try.func27, Try.ntmps27
  go_wp2
  go_ret2
  exact ⟨by first | rfl | (simp; done) | (simp [*]; done), by repeat (first | exact Drawn0.refl _ | apply Drawn0.step)⟩
def clapperref08_May.l0 : Nat → List (S48) → Int → Option (Bool)
 | 0, _, _ => none
 | k + 1, x0, x3 => if x3 < (x0.length : Int) then (if 0 ≤ x3 then (if ((rd_T48 x0 x3).f0) < 1 then (some false) else (if ((rd_T48 x0 x3).f0) > 255 then (some false) else (if (((rd_T48 x0 x3).f1).length : Int) > 65535 then (some false) else (if x3 > 0 then (if 0 ≤ (wrap64 (x3 - 1)) then (if (wrap64 (x3 - 1)) < (x0.length : Int) then (if ((rd_T48 x0 x3).f0) ≤ ((rd_T48 x0 (wrap64 (x3 - 1))).f0) then (some false) else (clapperref08_May.l0 k x0 (wrap64 (x3 + 1)))) else (none)) else (none)) else (clapperref08_May.l0 k x0 (wrap64 (x3 + 1))))))) else (none)) else (some (decide ((x0.length : Int) ≤ 64)))
def clapperref08_May.f (k : Nat) (l0 : List (S48)) : Option (Bool) := clapperref08_May.l0 k l0 0
theorem clapperref08_May.mono_l : ∀ k, (∀ y0 y1, LeO (clapperref08_May.l0 k y0 y1) (clapperref08_May.l0 (k + 1) y0 y1))
 | 0 => fun _ _ r h => by simp [clapperref08_May.l0] at h
 | k + 1 => by
  have ih0 := clapperref08_May.mono_l k
  ·intro y0 y1
   unfold clapperref08_May.l0
   repeat' first
   | (with_reducible exact ih0 _ _)
   | (with_reducible exact LeO.refl _)
   | (with_reducible exact LeO.none _)
   | (with_reducible refine LeO.ite ?_ ?_)
   | (with_reducible refine LeO.bind ?_ (fun _ => ?_))
   | exact ih0 _ _
   | exact LeO.none _
   | refine LeO.ite ?_ ?_
   | refine LeO.bind ?_ (fun _ => ?_)
theorem clapperref08_May.mono : ∀ a0 k, LeO (clapperref08_May.f k a0) (clapperref08_May.f (k + 1) a0) := by
 intro a0 k
 have ih0 := clapperref08_May.mono_l k
 unfold clapperref08_May.f
 repeat' first
   | (with_reducible exact ih0 _ _)
   | (with_reducible exact LeO.refl _)
   | (with_reducible exact LeO.none _)
   | (with_reducible refine LeO.ite ?_ ?_)
   | (with_reducible refine LeO.bind ?_ (fun _ => ?_))
   | exact ih0 _ _
   | exact LeO.none _
   | refine LeO.ite ?_ ?_
   | refine LeO.bind ?_ (fun _ => ?_)
set_option maxHeartbeats 8000000 in
set_option maxRecDepth 100000 in
theorem clapperref08_May.calls (k : Nat) (A0 : Option Addr) (c0 : Nat) (l0 : List (S48)) (r : Bool) (w : World) (hr0 : Kd.C k48 w A0 l0.length l0) (hc0 : l0.length ≤ c0) (h : clapperref08_May.f k l0 = some r) :
  Calls Try.prog 34 #[.slice A0 l0.length c0] w fun e w' => e = .returned (.bool r) ∧ Drawn0 w w' := by
 have HR0 := Aside0.mk hr0
 have HC0 := Aside0.mk hc0
 clear hr0 hc0
 have H : (clapperref08_May.l0 k l0 0) = some r := h
 clear h
 have H' := Aside0.mk H
 clear H
 go_enter Try.func34, Try.ntmps34
 go_wp2
 repeat (go_quiet (fail); try go_wp2)
 go_loopg [3] k (fun kq v3 w' => ∃ (x3_1 : Int), v3 = .int .i64 x3_1 ∧ Aside0 (clapperref08_May.l0 kq l0 x3_1 = some r) ∧ Aside0 (kq ≤ k) ∧ Drawn0 w w')
 case atStart => exact ⟨(0), (by first | rfl | (simp; done) | (simp [*]; done)), H', ⟨Nat.le_refl _⟩, by repeat (first | exact Drawn0.refl _ | apply Drawn0.step)⟩
 case round =>
  clear H'
  obtain ⟨x3_1, rfl, HA, HK1, ⟨m1, rfl⟩⟩ := hrel
  cases gk with
  | zero => exact absurd HA.out (by simp [clapperref08_May.l0])
  | succ k1 =>
   have H := HA.out
   clear HA
   simp only [clapperref08_May.l0] at H
   by_cases c2 : x3_1 < (l0.length : Int)
   ·rw [if_pos c2] at H
    have c2b0 : decide (x3_1 < (l0.length : Int)) = true := decide_eq_true c2
    clear c2
    by_cases c3 : 0 ≤ x3_1
    ·rw [if_pos c3] at H
     have c3b0 : decide (0 ≤ x3_1) = true := decide_eq_true c3
     clear c3
     by_cases c4 : ((rd_T48 l0 x3_1).f0) < 1
     ·rw [if_pos c4] at H
      have c4b0 : decide (((rd_T48 l0 x3_1).f0) < 1) = true := decide_eq_true c4
      clear c4
      obtain rfl := Option.some.inj H
      have p194 : 0 ≤ (x3_1 : Int) := of_decide_eq_true (by first | (with_reducible assumption) | assumption)
      have q194 : x3_1 < (l0.length : Int) := of_decide_eq_true (by first | (with_reducible assumption) | assumption)
      obtain ⟨ad194, A194_1, c194_1, e194, hx194_0, hx194_1, hl194_1, hi194_1⟩ := at_T48 HR0.out x3_1 p194 q194
      cases e194
      have HR194_1 := Aside0.mk hi194_1
      have HC194_1 := Aside0.mk hl194_1
      clear hi194_1 hl194_1
      replace p194 := eq_true p194
      replace q194 := eq_true q194
      go_wp2
      repeat (go_quiet (fail); try go_wp2)
      go_ret
      exact ⟨by first | rfl | (simp; done) | (simp [*]; done), by repeat (first | exact Drawn0.refl _ | apply Drawn0.step)⟩
     ·rw [if_neg c4] at H
      have c4b0 : decide (((rd_T48 l0 x3_1).f0) < 1) = false := decide_eq_false c4
      clear c4
      by_cases c5 : ((rd_T48 l0 x3_1).f0) > 255
      ·rw [if_pos c5] at H
       have c5b0 : decide (255 < ((rd_T48 l0 x3_1).f0)) = true := decide_eq_true c5
       clear c5
       obtain rfl := Option.some.inj H
       have p194 : 0 ≤ (x3_1 : Int) := of_decide_eq_true (by first | (with_reducible assumption) | assumption)
       have q194 : x3_1 < (l0.length : Int) := of_decide_eq_true (by first | (with_reducible assumption) | assumption)
       obtain ⟨ad194, A194_1, c194_1, e194, hx194_0, hx194_1, hl194_1, hi194_1⟩ := at_T48 HR0.out x3_1 p194 q194
       cases e194
       have HR194_1 := Aside0.mk hi194_1
       have HC194_1 := Aside0.mk hl194_1
       clear hi194_1 hl194_1
       replace p194 := eq_true p194
       replace q194 := eq_true q194
       have p195 : 0 ≤ (x3_1 : Int) := of_decide_eq_true (by first | (with_reducible assumption) | assumption)
       have q195 : x3_1 < (l0.length : Int) := of_decide_eq_true (by first | (with_reducible assumption) | assumption)
       obtain ⟨ad195, A195_1, c195_1, e195, hx195_0, hx195_1, hl195_1, hi195_1⟩ := at_T48 HR0.out x3_1 p195 q195
       obtain rfl : ad194 = ad195 := (by injection e195)
       have HR195_1 := Aside0.mk hi195_1
       have HC195_1 := Aside0.mk hl195_1
       clear hi195_1 hl195_1
       replace p195 := eq_true p195
       replace q195 := eq_true q195
       have ea_ := Option.some.inj (hx194_1.symm.trans hx195_1)
       injection ea_ with ea_ en_ ec_
       subst ea_
       subst ec_
       clear en_
       go_wp2
       repeat (go_quiet (fail); try go_wp2)
       go_ret
       exact ⟨by first | rfl | (simp; done) | (simp [*]; done), by repeat (first | exact Drawn0.refl _ | apply Drawn0.step)⟩
      ·rw [if_neg c5] at H
       have c5b0 : decide (255 < ((rd_T48 l0 x3_1).f0)) = false := decide_eq_false c5
       clear c5
       by_cases c6 : (((rd_T48 l0 x3_1).f1).length : Int) > 65535
       ·rw [if_pos c6] at H
        have c6b0 : decide (65535 < (((rd_T48 l0 x3_1).f1).length : Int)) = true := decide_eq_true c6
        have c6b1 : decide (65535 < ((rd_T48 l0 x3_1).f1).length) = true := decide_eq_true (by omega)
        clear c6
        obtain rfl := Option.some.inj H
        have p194 : 0 ≤ (x3_1 : Int) := of_decide_eq_true (by first | (with_reducible assumption) | assumption)
        have q194 : x3_1 < (l0.length : Int) := of_decide_eq_true (by first | (with_reducible assumption) | assumption)
        obtain ⟨ad194, A194_1, c194_1, e194, hx194_0, hx194_1, hl194_1, hi194_1⟩ := at_T48 HR0.out x3_1 p194 q194
        cases e194
        have HR194_1 := Aside0.mk hi194_1
        have HC194_1 := Aside0.mk hl194_1
        clear hi194_1 hl194_1
        replace p194 := eq_true p194
        replace q194 := eq_true q194
        have p195 : 0 ≤ (x3_1 : Int) := of_decide_eq_true (by first | (with_reducible assumption) | assumption)
        have q195 : x3_1 < (l0.length : Int) := of_decide_eq_true (by first | (with_reducible assumption) | assumption)
        obtain ⟨ad195, A195_1, c195_1, e195, hx195_0, hx195_1, hl195_1, hi195_1⟩ := at_T48 HR0.out x3_1 p195 q195
        obtain rfl : ad194 = ad195 := (by injection e195)
        have HR195_1 := Aside0.mk hi195_1
        have HC195_1 := Aside0.mk hl195_1
        clear hi195_1 hl195_1
        replace p195 := eq_true p195
        replace q195 := eq_true q195
        have ea_ := Option.some.inj (hx194_1.symm.trans hx195_1)
        injection ea_ with ea_ en_ ec_
        subst ea_
        subst ec_
        clear en_
        have p196 : 0 ≤ (x3_1 : Int) := of_decide_eq_true (by first | (with_reducible assumption) | assumption)
        have q196 : x3_1 < (l0.length : Int) := of_decide_eq_true (by first | (with_reducible assumption) | assumption)
        obtain ⟨ad196, A196_1, c196_1, e196, hx196_0, hx196_1, hl196_1, hi196_1⟩ := at_T48 HR0.out x3_1 p196 q196
        obtain rfl : ad194 = ad196 := (by injection e196)
        have HR196_1 := Aside0.mk hi196_1
        have HC196_1 := Aside0.mk hl196_1
        clear hi196_1 hl196_1
        replace p196 := eq_true p196
        replace q196 := eq_true q196
        have ea_ := Option.some.inj (hx194_1.symm.trans hx196_1)
        injection ea_ with ea_ en_ ec_
        subst ea_
        subst ec_
        clear en_
        go_wp2
        repeat (go_quiet (fail); try go_wp2)
        go_ret
        exact ⟨by first | rfl | (simp; done) | (simp [*]; done), by repeat (first | exact Drawn0.refl _ | apply Drawn0.step)⟩
       ·rw [if_neg c6] at H
        have c6b0 : decide (65535 < (((rd_T48 l0 x3_1).f1).length : Int)) = false := decide_eq_false c6
        have c6b1 : decide (65535 < ((rd_T48 l0 x3_1).f1).length) = false := decide_eq_false (by omega)
        clear c6
        by_cases c7 : x3_1 > 0
        ·rw [if_pos c7] at H
         have c7b0 : decide (0 < x3_1) = true := decide_eq_true c7
         clear c7
         obtain ⟨ji8, hji8⟩ : ∃ j_ : Int, (wrap64 (x3_1 - 1)) = j_ := ⟨_, rfl⟩
         replace H : (if 0 ≤ (ji8) then (if (ji8) < (l0.length : Int) then (if ((rd_T48 l0 x3_1).f0) ≤ ((rd_T48 l0 (ji8)).f0) then (some false) else (clapperref08_May.l0 k1 l0 (wrap64 (x3_1 + 1)))) else (none)) else (none)) = some r := by first | (rw [hji8] at H; exact H) | (simp only [hji8] at H ⊢; exact H)
         have hji8w : (IntKind.i64.wrap (x3_1 - 1)) = ji8 := (i64_w _).trans hji8
         by_cases c9 : 0 ≤ (ji8)
         ·rw [if_pos c9] at H
          have c9b0 : decide (0 ≤ (ji8)) = true := decide_eq_true c9
          clear c9
          by_cases c10 : (ji8) < (l0.length : Int)
          ·rw [if_pos c10] at H
           have c10b0 : decide ((ji8) < (l0.length : Int)) = true := decide_eq_true c10
           clear c10
           by_cases c11 : ((rd_T48 l0 x3_1).f0) ≤ ((rd_T48 l0 (ji8)).f0)
           ·rw [if_pos c11] at H
            have c11b0 : decide (((rd_T48 l0 x3_1).f0) ≤ ((rd_T48 l0 (ji8)).f0)) = true := decide_eq_true c11
            clear c11
            obtain rfl := Option.some.inj H
            have p194 : 0 ≤ (x3_1 : Int) := of_decide_eq_true (by first | (with_reducible assumption) | assumption)
            have q194 : x3_1 < (l0.length : Int) := of_decide_eq_true (by first | (with_reducible assumption) | assumption)
            obtain ⟨ad194, A194_1, c194_1, e194, hx194_0, hx194_1, hl194_1, hi194_1⟩ := at_T48 HR0.out x3_1 p194 q194
            cases e194
            have HR194_1 := Aside0.mk hi194_1
            have HC194_1 := Aside0.mk hl194_1
            clear hi194_1 hl194_1
            replace p194 := eq_true p194
            replace q194 := eq_true q194
            have p195 : 0 ≤ (x3_1 : Int) := of_decide_eq_true (by first | (with_reducible assumption) | assumption)
            have q195 : x3_1 < (l0.length : Int) := of_decide_eq_true (by first | (with_reducible assumption) | assumption)
            obtain ⟨ad195, A195_1, c195_1, e195, hx195_0, hx195_1, hl195_1, hi195_1⟩ := at_T48 HR0.out x3_1 p195 q195
            obtain rfl : ad194 = ad195 := (by injection e195)
            have HR195_1 := Aside0.mk hi195_1
            have HC195_1 := Aside0.mk hl195_1
            clear hi195_1 hl195_1
            replace p195 := eq_true p195
            replace q195 := eq_true q195
            have ea_ := Option.some.inj (hx194_1.symm.trans hx195_1)
            injection ea_ with ea_ en_ ec_
            subst ea_
            subst ec_
            clear en_
            have p196 : 0 ≤ (x3_1 : Int) := of_decide_eq_true (by first | (with_reducible assumption) | assumption)
            have q196 : x3_1 < (l0.length : Int) := of_decide_eq_true (by first | (with_reducible assumption) | assumption)
            obtain ⟨ad196, A196_1, c196_1, e196, hx196_0, hx196_1, hl196_1, hi196_1⟩ := at_T48 HR0.out x3_1 p196 q196
            obtain rfl : ad194 = ad196 := (by injection e196)
            have HR196_1 := Aside0.mk hi196_1
            have HC196_1 := Aside0.mk hl196_1
            clear hi196_1 hl196_1
            replace p196 := eq_true p196
            replace q196 := eq_true q196
            have ea_ := Option.some.inj (hx194_1.symm.trans hx196_1)
            injection ea_ with ea_ en_ ec_
            subst ea_
            subst ec_
            clear en_
            have p197 : 0 ≤ (x3_1 : Int) := of_decide_eq_true (by first | (with_reducible assumption) | assumption)
            have q197 : x3_1 < (l0.length : Int) := of_decide_eq_true (by first | (with_reducible assumption) | assumption)
            obtain ⟨ad197, A197_1, c197_1, e197, hx197_0, hx197_1, hl197_1, hi197_1⟩ := at_T48 HR0.out x3_1 p197 q197
            obtain rfl : ad194 = ad197 := (by injection e197)
            have HR197_1 := Aside0.mk hi197_1
            have HC197_1 := Aside0.mk hl197_1
            clear hi197_1 hl197_1
            replace p197 := eq_true p197
            replace q197 := eq_true q197
            have ea_ := Option.some.inj (hx194_1.symm.trans hx197_1)
            injection ea_ with ea_ en_ ec_
            subst ea_
            subst ec_
            clear en_
            have p198 : 0 ≤ ((ji8) : Int) := of_decide_eq_true (by first | (with_reducible assumption) | assumption)
            have q198 : (ji8) < (l0.length : Int) := of_decide_eq_true (by first | (with_reducible assumption) | assumption)
            obtain ⟨ad198, A198_1, c198_1, e198, hx198_0, hx198_1, hl198_1, hi198_1⟩ := at_T48 HR0.out (ji8) p198 q198
            obtain rfl : ad194 = ad198 := (by injection e198)
            have HR198_1 := Aside0.mk hi198_1
            have HC198_1 := Aside0.mk hl198_1
            clear hi198_1 hl198_1
            replace p198 := eq_true p198
            replace q198 := eq_true q198
            go_wp2
            repeat (go_quiet (fail); try go_wp2)
            go_ret
            exact ⟨by first | rfl | (simp; done) | (simp only [← hji8] <;> (first | rfl | simp)) | (simp [*]; done), by repeat (first | exact Drawn0.refl _ | apply Drawn0.step)⟩
           ·rw [if_neg c11] at H
            have c11b0 : decide (((rd_T48 l0 x3_1).f0) ≤ ((rd_T48 l0 (ji8)).f0)) = false := decide_eq_false c11
            clear c11
            have H' := Aside0.mk H
            clear H
            have p194 : 0 ≤ (x3_1 : Int) := of_decide_eq_true (by first | (with_reducible assumption) | assumption)
            have q194 : x3_1 < (l0.length : Int) := of_decide_eq_true (by first | (with_reducible assumption) | assumption)
            obtain ⟨ad194, A194_1, c194_1, e194, hx194_0, hx194_1, hl194_1, hi194_1⟩ := at_T48 HR0.out x3_1 p194 q194
            cases e194
            have HR194_1 := Aside0.mk hi194_1
            have HC194_1 := Aside0.mk hl194_1
            clear hi194_1 hl194_1
            replace p194 := eq_true p194
            replace q194 := eq_true q194
            have p195 : 0 ≤ (x3_1 : Int) := of_decide_eq_true (by first | (with_reducible assumption) | assumption)
            have q195 : x3_1 < (l0.length : Int) := of_decide_eq_true (by first | (with_reducible assumption) | assumption)
            obtain ⟨ad195, A195_1, c195_1, e195, hx195_0, hx195_1, hl195_1, hi195_1⟩ := at_T48 HR0.out x3_1 p195 q195
            obtain rfl : ad194 = ad195 := (by injection e195)
            have HR195_1 := Aside0.mk hi195_1
            have HC195_1 := Aside0.mk hl195_1
            clear hi195_1 hl195_1
            replace p195 := eq_true p195
            replace q195 := eq_true q195
            have ea_ := Option.some.inj (hx194_1.symm.trans hx195_1)
            injection ea_ with ea_ en_ ec_
            subst ea_
            subst ec_
            clear en_
            have p196 : 0 ≤ (x3_1 : Int) := of_decide_eq_true (by first | (with_reducible assumption) | assumption)
            have q196 : x3_1 < (l0.length : Int) := of_decide_eq_true (by first | (with_reducible assumption) | assumption)
            obtain ⟨ad196, A196_1, c196_1, e196, hx196_0, hx196_1, hl196_1, hi196_1⟩ := at_T48 HR0.out x3_1 p196 q196
            obtain rfl : ad194 = ad196 := (by injection e196)
            have HR196_1 := Aside0.mk hi196_1
            have HC196_1 := Aside0.mk hl196_1
            clear hi196_1 hl196_1
            replace p196 := eq_true p196
            replace q196 := eq_true q196
            have ea_ := Option.some.inj (hx194_1.symm.trans hx196_1)
            injection ea_ with ea_ en_ ec_
            subst ea_
            subst ec_
            clear en_
            have p197 : 0 ≤ (x3_1 : Int) := of_decide_eq_true (by first | (with_reducible assumption) | assumption)
            have q197 : x3_1 < (l0.length : Int) := of_decide_eq_true (by first | (with_reducible assumption) | assumption)
            obtain ⟨ad197, A197_1, c197_1, e197, hx197_0, hx197_1, hl197_1, hi197_1⟩ := at_T48 HR0.out x3_1 p197 q197
            obtain rfl : ad194 = ad197 := (by injection e197)
            have HR197_1 := Aside0.mk hi197_1
            have HC197_1 := Aside0.mk hl197_1
            clear hi197_1 hl197_1
            replace p197 := eq_true p197
            replace q197 := eq_true q197
            have ea_ := Option.some.inj (hx194_1.symm.trans hx197_1)
            injection ea_ with ea_ en_ ec_
            subst ea_
            subst ec_
            clear en_
            have p198 : 0 ≤ ((ji8) : Int) := of_decide_eq_true (by first | (with_reducible assumption) | assumption)
            have q198 : (ji8) < (l0.length : Int) := of_decide_eq_true (by first | (with_reducible assumption) | assumption)
            obtain ⟨ad198, A198_1, c198_1, e198, hx198_0, hx198_1, hl198_1, hi198_1⟩ := at_T48 HR0.out (ji8) p198 q198
            obtain rfl : ad194 = ad198 := (by injection e198)
            have HR198_1 := Aside0.mk hi198_1
            have HC198_1 := Aside0.mk hl198_1
            clear hi198_1 hl198_1
            replace p198 := eq_true p198
            replace q198 := eq_true q198
            go_wp2
            repeat (go_quiet (fail); try go_wp2)
            go_roundg k1
            case measure => have := HK1.out; omega
            case rel => exact ⟨(wrap64 (x3_1 + 1)), (by first | rfl | (simp; done) | (simp [*]; done)), H', ⟨by have := HK1.out; omega⟩, by repeat (first | exact Drawn0.refl _ | apply Drawn0.step)⟩
          ·rw [if_neg c10] at H
           exact absurd H (by simp)
         ·rw [if_neg c9] at H
          exact absurd H (by simp)
        ·rw [if_neg c7] at H
         have c7b0 : decide (0 < x3_1) = false := decide_eq_false c7
         clear c7
         have H' := Aside0.mk H
         clear H
         have p194 : 0 ≤ (x3_1 : Int) := of_decide_eq_true (by first | (with_reducible assumption) | assumption)
         have q194 : x3_1 < (l0.length : Int) := of_decide_eq_true (by first | (with_reducible assumption) | assumption)
         obtain ⟨ad194, A194_1, c194_1, e194, hx194_0, hx194_1, hl194_1, hi194_1⟩ := at_T48 HR0.out x3_1 p194 q194
         cases e194
         have HR194_1 := Aside0.mk hi194_1
         have HC194_1 := Aside0.mk hl194_1
         clear hi194_1 hl194_1
         replace p194 := eq_true p194
         replace q194 := eq_true q194
         have p195 : 0 ≤ (x3_1 : Int) := of_decide_eq_true (by first | (with_reducible assumption) | assumption)
         have q195 : x3_1 < (l0.length : Int) := of_decide_eq_true (by first | (with_reducible assumption) | assumption)
         obtain ⟨ad195, A195_1, c195_1, e195, hx195_0, hx195_1, hl195_1, hi195_1⟩ := at_T48 HR0.out x3_1 p195 q195
         obtain rfl : ad194 = ad195 := (by injection e195)
         have HR195_1 := Aside0.mk hi195_1
         have HC195_1 := Aside0.mk hl195_1
         clear hi195_1 hl195_1
         replace p195 := eq_true p195
         replace q195 := eq_true q195
         have ea_ := Option.some.inj (hx194_1.symm.trans hx195_1)
         injection ea_ with ea_ en_ ec_
         subst ea_
         subst ec_
         clear en_
         have p196 : 0 ≤ (x3_1 : Int) := of_decide_eq_true (by first | (with_reducible assumption) | assumption)
         have q196 : x3_1 < (l0.length : Int) := of_decide_eq_true (by first | (with_reducible assumption) | assumption)
         obtain ⟨ad196, A196_1, c196_1, e196, hx196_0, hx196_1, hl196_1, hi196_1⟩ := at_T48 HR0.out x3_1 p196 q196
         obtain rfl : ad194 = ad196 := (by injection e196)
         have HR196_1 := Aside0.mk hi196_1
         have HC196_1 := Aside0.mk hl196_1
         clear hi196_1 hl196_1
         replace p196 := eq_true p196
         replace q196 := eq_true q196
         have ea_ := Option.some.inj (hx194_1.symm.trans hx196_1)
         injection ea_ with ea_ en_ ec_
         subst ea_
         subst ec_
         clear en_
         go_wp2
         repeat (go_quiet (fail); try go_wp2)
         go_roundg k1
         case measure => have := HK1.out; omega
         case rel => exact ⟨(wrap64 (x3_1 + 1)), (by first | rfl | (simp; done) | (simp [*]; done)), H', ⟨by have := HK1.out; omega⟩, by repeat (first | exact Drawn0.refl _ | apply Drawn0.step)⟩
    ·rw [if_neg c3] at H
     exact absurd H (by simp)
   ·rw [if_neg c2] at H
    have c2b0 : decide (x3_1 < (l0.length : Int)) = false := decide_eq_false c2
    clear c2
    obtain rfl := Option.some.inj H
    go_wp2
    repeat (go_quiet (fail); try go_wp2)
    go_ret
    exact ⟨by first | rfl | (simp; done) | (simp [*]; done), by repeat (first | exact Drawn0.refl _ | apply Drawn0.step)⟩
end Go.Proofs.Ytkaeoeebagndaaa.PRevokeTells
namespace Go.Proofs.Ytkaeoeebagndaaa.PRevokeTells
open Go.RowKit Go.Proofs.YtkaeoeebagndaaaW.PrintWords Go.Proofs.YtkaeoeebagndaaaW.PrintLast Go.Proofs.YtkaeoeebagndaaaW.PrintMore
attribute [local go_sem] max2_int min2_int max_two min_two max_three min_three max_four min_four   -- for this text's walks alone
set_option linter.unusedVariables false
set_option linter.unusedSimpArgs false
attribute [local go_sem high] u8_w cast_tmod eql_code neq_code eql_code_nil neq_code_nil eql_nil_code neq_nil_code
mutual
def clapperref08_Of.j0 : Nat → List Int → Bool → Option (Int)
 | 0, _, _ => none
 | k + 1, x0, x13 => if x13 = true then (some (-1)) else (clapperref08_Of.l0 k x0 0 0)
def clapperref08_Of.l0 : Nat → List Int → Int → Int → Option (Int)
 | 0, _, _, _ => none
 | k + 1, x0, x3, x4 => if x4 < 8 then (if 0 ≤ x4 then (if x4 < (x0.length : Int) then (clapperref08_Of.l0 k x0 (wrap64 ((wrap64 (256 * x3)) + (wrap64 (rd x0 x4)))) (wrap64 (x4 + 1))) else (none)) else (none)) else (some x3)
end
def clapperref08_Of.f (k : Nat) (l0 : List Int) : Option (Int) := if (l0.length : Int) = 8 then (if 0 < (l0.length : Int) then (clapperref08_Of.j0 k l0 (decide ((rd l0 0) > 127))) else (none)) else (clapperref08_Of.j0 k l0 true)
theorem clapperref08_Of.mono_l : ∀ k, (∀ y0 y1, LeO (clapperref08_Of.j0 k y0 y1) (clapperref08_Of.j0 (k + 1) y0 y1)) ∧ (∀ y0 y1 y2, LeO (clapperref08_Of.l0 k y0 y1 y2) (clapperref08_Of.l0 (k + 1) y0 y1 y2))
 | 0 => ⟨fun _ _ r h => by simp [clapperref08_Of.j0] at h, fun _ _ _ r h => by simp [clapperref08_Of.l0] at h⟩
 | k + 1 => by
  obtain ⟨ih0, ih1⟩ := clapperref08_Of.mono_l k
  refine ⟨?_, ?_⟩
  ·intro y0 y1
   unfold clapperref08_Of.j0
   repeat' first
   | (with_reducible exact ih0 _ _)
   | (with_reducible exact ih1 _ _ _)
   | (with_reducible exact LeO.refl _)
   | (with_reducible exact LeO.none _)
   | (with_reducible refine LeO.ite ?_ ?_)
   | (with_reducible refine LeO.bind ?_ (fun _ => ?_))
   | exact ih0 _ _
   | exact ih1 _ _ _
   | exact LeO.none _
   | refine LeO.ite ?_ ?_
   | refine LeO.bind ?_ (fun _ => ?_)
  ·intro y0 y1 y2
   unfold clapperref08_Of.l0
   repeat' first
   | (with_reducible exact ih0 _ _)
   | (with_reducible exact ih1 _ _ _)
   | (with_reducible exact LeO.refl _)
   | (with_reducible exact LeO.none _)
   | (with_reducible refine LeO.ite ?_ ?_)
   | (with_reducible refine LeO.bind ?_ (fun _ => ?_))
   | exact ih0 _ _
   | exact ih1 _ _ _
   | exact LeO.none _
   | refine LeO.ite ?_ ?_
   | refine LeO.bind ?_ (fun _ => ?_)
theorem clapperref08_Of.mono : ∀ a0 k, LeO (clapperref08_Of.f k a0) (clapperref08_Of.f (k + 1) a0) := by
 intro a0 k
 obtain ⟨ih0, ih1⟩ := clapperref08_Of.mono_l k
 unfold clapperref08_Of.f
 repeat' first
   | (with_reducible exact ih0 _ _)
   | (with_reducible exact ih1 _ _ _)
   | (with_reducible exact LeO.refl _)
   | (with_reducible exact LeO.none _)
   | (with_reducible refine LeO.ite ?_ ?_)
   | (with_reducible refine LeO.bind ?_ (fun _ => ?_))
   | exact ih0 _ _
   | exact ih1 _ _ _
   | exact LeO.none _
   | refine LeO.ite ?_ ?_
   | refine LeO.bind ?_ (fun _ => ?_)
set_option maxHeartbeats 8000000 in
set_option maxRecDepth 100000 in
theorem clapperref08_Of.calls (k : Nat) (A0 : Option Addr) (c0 : Nat) (l0 : List Int) (r : Int) (w : World) (hr0 : Kd.C (Kd.int .u8) w A0 l0.length l0) (hc0 : l0.length ≤ c0) (h : clapperref08_Of.f k l0 = some r) :
  Calls Try.prog 29 #[.slice A0 l0.length c0] w fun e w' => e = .returned (.int .i64 r) ∧ Drawn0 w w' := by
 have HR0 := Aside0.mk hr0
 have HC0 := Aside0.mk hc0
 clear hr0 hc0
 have H : (if (l0.length : Int) = 8 then (if 0 < (l0.length : Int) then (clapperref08_Of.j0 k l0 (decide ((rd l0 0) > 127))) else (none)) else (clapperref08_Of.j0 k l0 true)) = some r := h
 clear h
 have HC2 := Aside0.mk H
 clear H
 go_enter Try.func29, Try.ntmps29
 go_upto_region 1 with (fail)
 go_cut [13] (fun v13 wc => ∃ (kq : Nat) (x13_1 : Bool), v13 = .bool x13_1 ∧ Aside0 (clapperref08_Of.j0 kq l0 x13_1 = some r) ∧ Aside0 (kq ≤ k) ∧ Drawn0 w wc)
 case first =>
  have H := HC2.out
  clear HC2
  by_cases c3 : (l0.length : Int) = 8
  ·rw [if_pos c3] at H
   have c3b0 : ((l0.length : Int) == 8) = true := beq_iff_eq.mpr c3
   have c3b1 : ((l0.length : Int) != 8) = false := bne_eq_false_iff_eq.mpr c3
   clear c3
   (first | rw [c3b0] | (simp only [i64_w, i32_w]; rw [c3b0]) | skip)
   by_cases c4 : 0 < (l0.length : Int)
   ·rw [if_pos c4] at H
    have c4b0 : decide (0 < (l0.length : Int)) = true := decide_eq_true c4
    have c4b1 : decide (0 < l0.length) = true := decide_eq_true (by omega)
    clear c4
    have H' := Aside0.mk H
    clear H
    have p213 : 0 ≤ (0 : Int) := (by omega)
    have q213 : 0 < (l0.length : Int) := of_decide_eq_true (by first | (with_reducible assumption) | assumption)
    obtain ⟨ad213, e213, hx213_0⟩ := Kd.at_int HR0.out 0 p213 q213
    cases e213
    have qi213 : (0 < l0.length) = True := eq_true (by omega)
    (try rw [show ((0 : Int)).toNat = 0 from rfl] at hx213_0)
    (try rw [Addr.add_zero'] at hx213_0)
    replace p213 := eq_true p213
    replace q213 := eq_true q213
    go_wp2
    go_meet
    case rel => exact ⟨_, (decide ((rd l0 0) > 127)), (by first | rfl | (simp; done) | (simp [*]; done)), H', ⟨by first | omega | exact Nat.le_refl _⟩, by repeat (first | exact Drawn0.refl _ | apply Drawn0.step)⟩
   ·rw [if_neg c4] at H
    exact absurd H (by simp)
  ·rw [if_neg c3] at H
   have c3b0 : ((l0.length : Int) == 8) = false := beq_eq_false_iff_ne.mpr c3
   have c3b1 : ((l0.length : Int) != 8) = true := bne_iff_ne.mpr c3
   (first | rw [c3b0] | (simp only [i64_w, i32_w]; rw [c3b0]) | skip)
   have H' := Aside0.mk H
   clear H
   go_wp2
   go_meet
   case rel => exact ⟨_, (true), (by first | rfl | (simp; done) | (simp [*]; done)), H', ⟨by first | omega | exact Nat.le_refl _⟩, by repeat (first | exact Drawn0.refl _ | apply Drawn0.step)⟩
 case rest =>
  clear HC2
  try clear c2
  try clear p2
  try clear q2
  try clear hx2
  try clear qi2
  try clear c3
  try clear c3b0
  try clear c3b1
  try clear c4
  try clear c4b0
  try clear c4b1
  try clear hx213_0
  try clear p213
  try clear q213
  obtain ⟨kq, x13_1, rfl, HA, HJ1, ⟨mc1, rfl⟩⟩ := hcut
  cases kq with
  | zero => exact absurd HA.out (by simp [clapperref08_Of.j0])
  | succ kj1 =>
   have H := HA.out
   clear HA
   simp only [clapperref08_Of.j0] at H
   by_cases c5 : x13_1 = true
   ·subst c5
    have H1 : (some (-1)) = some r := by rw [if_pos rfl] at H; exact H
    clear H
    have H := H1
    clear H1
    obtain rfl := Option.some.inj H
    go_wp2
    go_ret
    exact ⟨by first | rfl | (simp; done) | (simp [*]; done), by repeat (first | exact Drawn0.refl _ | apply Drawn0.step)⟩
   ·replace c5 := Bool.eq_false_iff.mpr c5
    subst c5
    have H1 : (clapperref08_Of.l0 kj1 l0 0 0) = some r := by rw [if_neg (show ¬ (false = true) by decide)] at H; exact H
    clear H
    have H := H1
    clear H1
    have H' := Aside0.mk H
    clear H
    go_wp2
    go_loopg [3, 4] kj1 (fun kq v3 v4 w' => ∃ (x3_2 : Int) (x4_2 : Int), v3 = .int .i64 x3_2 ∧ v4 = .int .i64 x4_2 ∧ Aside0 (clapperref08_Of.l0 kq l0 x3_2 x4_2 = some r) ∧ Aside0 (kq ≤ kj1) ∧ Drawn0 w w')
    case atStart => exact ⟨(0), (0), (by first | rfl | (simp; done) | (simp [*]; done)), (by first | rfl | (simp; done) | (simp [*]; done)), H', ⟨Nat.le_refl _⟩, by repeat (first | exact Drawn0.refl _ | apply Drawn0.step)⟩
    case round =>
     clear H'
     try clear c1
     try clear c2
     try clear p2
     try clear q2
     try clear hx2
     try clear qi2
     try clear c3
     try clear c3b0
     try clear c3b1
     try clear c4
     try clear c4b0
     try clear c4b1
     try clear c5
     try clear hx213_0
     try clear p2
     try clear p213
     try clear q2
     try clear q213
     obtain ⟨x3_2, x4_2, rfl, rfl, HA, HK2, ⟨m2, rfl⟩⟩ := hrel
     cases gk with
     | zero => exact absurd HA.out (by simp [clapperref08_Of.l0])
     | succ k2 =>
      have H := HA.out
      clear HA
      simp only [clapperref08_Of.l0] at H
      by_cases c6 : x4_2 < 8
      ·rw [if_pos c6] at H
       have c6b0 : decide (x4_2 < 8) = true := decide_eq_true c6
       clear c6
       by_cases c7 : 0 ≤ x4_2
       ·rw [if_pos c7] at H
        have c7b0 : decide (0 ≤ x4_2) = true := decide_eq_true c7
        clear c7
        by_cases c8 : x4_2 < (l0.length : Int)
        ·rw [if_pos c8] at H
         have c8b0 : decide (x4_2 < (l0.length : Int)) = true := decide_eq_true c8
         clear c8
         have H' := Aside0.mk H
         clear H
         have p214 : 0 ≤ (x4_2 : Int) := of_decide_eq_true (by first | (with_reducible assumption) | assumption)
         have q214 : x4_2 < (l0.length : Int) := of_decide_eq_true (by first | (with_reducible assumption) | assumption)
         obtain ⟨ad214, e214, hx214_0⟩ := Kd.at_int HR0.out x4_2 p214 q214
         cases e214
         replace p214 := eq_true p214
         replace q214 := eq_true q214
         go_wp2
         go_roundg k2
         case measure => have := HJ1.out; have := HK2.out; omega
         case rel => exact ⟨(wrap64 ((wrap64 (256 * x3_2)) + (wrap64 (rd l0 x4_2)))), (wrap64 (x4_2 + 1)), (by first | rfl | (simp; done) | (simp [*]; done)), (by first | rfl | (simp; done) | (simp [*]; done)), H', ⟨by have := HJ1.out; have := HK2.out; omega⟩, by repeat (first | exact Drawn0.refl _ | apply Drawn0.step)⟩
        ·rw [if_neg c8] at H
         exact absurd H (by simp)
       ·rw [if_neg c7] at H
        exact absurd H (by simp)
      ·rw [if_neg c6] at H
       have c6b0 : decide (x4_2 < 8) = false := decide_eq_false c6
       clear c6
       obtain rfl := Option.some.inj H
       go_wp2
       go_ret
       exact ⟨by first | rfl | (simp; done) | (simp [*]; done), by repeat (first | exact Drawn0.refl _ | apply Drawn0.step)⟩
end Go.Proofs.Ytkaeoeebagndaaa.PRevokeTells
