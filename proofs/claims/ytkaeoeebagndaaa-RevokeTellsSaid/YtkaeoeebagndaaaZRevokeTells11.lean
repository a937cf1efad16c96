/- What the proof of RevokeTells is made of, part 11. -/
import Derived.Test.YtkaeoeebagndaaaZRevokeTells4
import Derived.Test.YtkaeoeebagndaaaZRevokeTells5
import Derived.Test.YtkaeoeebagndaaaZRevokeTells10
import Derived.Test.YtkaeoeebagndaaaZRevokeTells9
import Derived.Test.YtkaeoeebagndaaaZRevokeTellsh
namespace Go.Proofs.Ytkaeoeebagndaaa.PRevokeTells
open Go.RowKit Go.Proofs.YtkaeoeebagndaaaW.PrintWords Go.Proofs.YtkaeoeebagndaaaW.PrintLast Go.Proofs.YtkaeoeebagndaaaW.PrintMore
attribute [local go_sem] max2_int min2_int max_two min_two max_three min_three max_four min_four   -- for this text's walks alone
set_option linter.unusedVariables false
set_option linter.unusedSimpArgs false
attribute [local go_sem high] u8_w cast_tmod eql_code neq_code eql_code_nil neq_code_nil eql_nil_code neq_nil_code
mutual
def clapperref11_Parse.j0 : Nat → List (S48) → Bool → Option ((List (S43)) × Bool)
 | 0, _, _ => none
 | k + 1, x4, x37 => if x37 = true then (some (([] : List (S43)), false)) else (if 0 < (x4.length : Int) then (clapperref11_Parse.l0 k ((rd_T48 x4 0).f1) ([] : List (S43)) 0) else (none))
def clapperref11_Parse.l0 : Nat → List Int → List (S43) → Int → Option ((List (S43)) × Bool)
 | 0, _, _, _ => none
 | k + 1, x6, x7, x8 => if x8 < (x6.length : Int) then (if 0 ≤ x8 then (if x8 ≤ (wrap64 (x8 + 8)) then (if (wrap64 (x8 + 8)) ≤ (x6.length : Int) then ((clapperref08_Of.f k ((x6.take ((wrap64 (x8 + 8)) : Int).toNat).drop (x8 : Int).toNat)).bind fun t223 => (if 0 ≤ (wrap64 (x8 + 8)) then (if (wrap64 (x8 + 8)) ≤ (wrap64 (x8 + 16)) then (if (wrap64 (x8 + 16)) ≤ (x6.length : Int) then ((clapperref08_Of.f k ((x6.take ((wrap64 (x8 + 16)) : Int).toNat).drop ((wrap64 (x8 + 8)) : Int).toNat)).bind fun t225 => (if x7.length < 8796093022208 then (clapperref11_Parse.l0 k x6 (x7 ++ [(⟨t223, t225⟩ : S43)]) (wrap64 (x8 + 16))) else (none))) else (none)) else (none)) else (none))) else (none)) else (none)) else (none)) else ((clapperref11_May.f k x7).bind fun t229 => (if t229 = true then (some (x7, true)) else (some (([] : List (S43)), false))))
end
def clapperref11_Parse.f (k : Nat) (l0 : List Int) : Option ((List (S43)) × Bool) := (clapperref08_Get.f k l0).bind fun bt215 => (if bt215.2 = true then (if (bt215.1.length : Int) = 1 then (if 0 < (bt215.1.length : Int) then (if ((rd_T48 bt215.1 0).f0) = 1 then (clapperref11_Parse.j0 k bt215.1 (((((rd_T48 bt215.1 0).f1).length : Int) % 16) != 0)) else (clapperref11_Parse.j0 k bt215.1 true)) else (none)) else (clapperref11_Parse.j0 k bt215.1 true)) else (clapperref11_Parse.j0 k bt215.1 true))
theorem clapperref11_Parse.mono_l : ∀ k, (∀ y0 y1, LeO (clapperref11_Parse.j0 k y0 y1) (clapperref11_Parse.j0 (k + 1) y0 y1)) ∧ (∀ y0 y1 y2, LeO (clapperref11_Parse.l0 k y0 y1 y2) (clapperref11_Parse.l0 (k + 1) y0 y1 y2))
 | 0 => ⟨fun _ _ r h => by simp [clapperref11_Parse.j0] at h, fun _ _ _ r h => by simp [clapperref11_Parse.l0] at h⟩
 | k + 1 => by
  obtain ⟨ih0, ih1⟩ := clapperref11_Parse.mono_l k
  refine ⟨?_, ?_⟩
  ·intro y0 y1
   unfold clapperref11_Parse.j0
   repeat' first
   | (with_reducible exact ih0 _ _)
   | (with_reducible exact ih1 _ _ _)
   | (with_reducible exact clapperref08_Get.mono _ _)
   | (with_reducible exact clapperref08_Of.mono _ _)
   | (with_reducible exact clapperref11_May.mono _ _)
   | (with_reducible exact LeO.refl _)
   | (with_reducible exact LeO.none _)
   | (with_reducible refine LeO.ite ?_ ?_)
   | (with_reducible refine LeO.bind ?_ (fun _ => ?_))
   | exact ih0 _ _
   | exact ih1 _ _ _
   | exact clapperref08_Get.mono _ _
   | exact clapperref08_Of.mono _ _
   | exact clapperref11_May.mono _ _
   | exact LeO.none _
   | refine LeO.ite ?_ ?_
   | refine LeO.bind ?_ (fun _ => ?_)
  ·intro y0 y1 y2
   unfold clapperref11_Parse.l0
   repeat' first
   | (with_reducible exact ih0 _ _)
   | (with_reducible exact ih1 _ _ _)
   | (with_reducible exact clapperref08_Get.mono _ _)
   | (with_reducible exact clapperref08_Of.mono _ _)
   | (with_reducible exact clapperref11_May.mono _ _)
   | (with_reducible exact LeO.refl _)
   | (with_reducible exact LeO.none _)
   | (with_reducible refine LeO.ite ?_ ?_)
   | (with_reducible refine LeO.bind ?_ (fun _ => ?_))
   | exact ih0 _ _
   | exact ih1 _ _ _
   | exact clapperref08_Get.mono _ _
   | exact clapperref08_Of.mono _ _
   | exact clapperref11_May.mono _ _
   | exact LeO.none _
   | refine LeO.ite ?_ ?_
   | refine LeO.bind ?_ (fun _ => ?_)
theorem clapperref11_Parse.mono : ∀ a0 k, LeO (clapperref11_Parse.f k a0) (clapperref11_Parse.f (k + 1) a0) := by
 intro a0 k
 obtain ⟨ih0, ih1⟩ := clapperref11_Parse.mono_l k
 unfold clapperref11_Parse.f
 repeat' first
   | (with_reducible exact ih0 _ _)
   | (with_reducible exact ih1 _ _ _)
   | (with_reducible exact clapperref08_Get.mono _ _)
   | (with_reducible exact clapperref08_Of.mono _ _)
   | (with_reducible exact clapperref11_May.mono _ _)
   | (with_reducible exact LeO.refl _)
   | (with_reducible exact LeO.none _)
   | (with_reducible refine LeO.ite ?_ ?_)
   | (with_reducible refine LeO.bind ?_ (fun _ => ?_))
   | exact ih0 _ _
   | exact ih1 _ _ _
   | exact clapperref08_Get.mono _ _
   | exact clapperref08_Of.mono _ _
   | exact clapperref11_May.mono _ _
   | exact LeO.none _
   | refine LeO.ite ?_ ?_
   | refine LeO.bind ?_ (fun _ => ?_)
def clapperref11_Parse.T9 : Bool × List (List Nat × List Nat) := (true, [([], []), ([], []), ([], []), ([], []), ([3], [3]), ([1, 2, 4], [1, 2, 4]), ([5], [5]), ([], []), ([], []), ([8], [8]), ([], []), ([10], [10]), ([7, 9, 11], [7, 9, 11]), ([12, 6], [12]), ([6, 13], [6, 13]), ([14], [14]), ([0, 15, 13], [0, 15]), ([16, 16, 0, 1, 2, 3, 4, 5, 6, 7, 8, 9, 10, 11, 12, 13, 14, 15, 16], [0, 16])])
def clapperref11_Parse.B9 : List Nat := [0, 0, 0, 0, 8, 30, 62, 0, 0, 256, 0, 1024, 3968, 8190, 16382, 32766, 65535, 131071]
theorem clapperref11_Parse.tab9 : rtab .any (opsOf Try.f17 9) = clapperref11_Parse.T9 := by kernel_rfl
theorem clapperref11_Parse.bits9 : waitsOk clapperref11_Parse.T9.2 clapperref11_Parse.B9 = true := by kernel_rfl
set_option maxHeartbeats 8000000 in
set_option maxRecDepth 100000 in
theorem clapperref11_Parse.calls (k : Nat) (A0 : Option Addr) (c0 : Nat) (l0 : List Int) (r1 : List (S43)) (r2 : Bool) (w : World) (hr0 : Kd.C (Kd.int .u8) w A0 l0.length l0) (hc0 : l0.length ≤ c0) (h : clapperref11_Parse.f k l0 = some (r1, r2)) :
  Calls Try.prog 17 #[.slice A0 l0.length c0] w fun e w' => ∃ v0_ : Value, e = .returned (.tuple #[v0_, .bool r2]) ∧ Kd.R k43 43 w' w.heap.size (fun _ => True) v0_ r1 ∧ Below w.heap.size w w' := by
 have hu43 := Try.underlying43
 have HR0 := Aside0.mk hr0
 have HC0 := Aside0.mk hc0
 clear hr0 hc0
 have HB := Aside0.mk (Below.refl w.heap.size w)
 have H : ((clapperref08_Get.f k l0).bind fun bt215 => (if bt215.2 = true then (if (bt215.1.length : Int) = 1 then (if 0 < (bt215.1.length : Int) then (if ((rd_T48 bt215.1 0).f0) = 1 then (clapperref11_Parse.j0 k bt215.1 (((((rd_T48 bt215.1 0).f1).length : Int) % 16) != 0)) else (clapperref11_Parse.j0 k bt215.1 true)) else (none)) else (clapperref11_Parse.j0 k bt215.1 true)) else (clapperref11_Parse.j0 k bt215.1 true))) = some (r1, r2) := h
 clear h
 replace H := Option.bind_eq_some_iff.mp H
 obtain ⟨⟨t215, t216⟩, A20, H⟩ := H
 replace H : (if t216 = true then (if (t215.length : Int) = 1 then (if 0 < (t215.length : Int) then (if ((rd_T48 t215 0).f0) = 1 then (clapperref11_Parse.j0 k t215 (((((rd_T48 t215 0).f1).length : Int) % 16) != 0)) else (clapperref11_Parse.j0 k t215 true)) else (none)) else (clapperref11_Parse.j0 k t215 true)) else (clapperref11_Parse.j0 k t215 true)) = some (r1, r2) := H
 have A2 := Aside0.mk A20
 clear A20
 have HC3 := Aside0.mk H
 clear H
 go_enter Try.func17, Try.ntmps17
 go_upto_region 2 with (first | ((with_reducible refine gate_callee (f := 28) rfl ?_); refine goesL_ (some 12) rfl rfl Try.func28 (by kernel_rfl) rfl #[.slice A0 l0.length c0] rfl (by (try simp only [List.map_toArray, List.map_cons, List.map_nil]); first | done | rfl | (simp only [List.length_drop, List.length_take]; rfl)) ?_; (with_reducible refine (clapperref08_Get.calls k _ _ l0 t215 t216 _ ?side1 ?side2 A2.out).mono ?_); (case side1 => repeat (first | exact HR0.out | (with_reducible refine Kd.C_alloc ?_ _) | (with_reducible refine Kd.C_drewN ?_ _) | (with_reducible refine Kd.C_drew ?_))); (case side2 => exact HC0.out); rintro e w4 ⟨v217, rfl, ho0, hb⟩; refine ⟨_, rfl, ?_⟩; have n0_ := Aside0.mk (Kd.S_lower ho0 (below_size (by repeat (first | (with_reducible first | exact HB.out | apply below_alloc | apply pw_below_drewN | apply below_drew1) | exact HB.out)))); have n1_ := Aside0.mk (below_step (by repeat (first | (with_reducible first | exact HB.out | apply below_alloc | apply pw_below_drewN | apply below_drew1) | exact HB.out)) hb); clear HB; have HO218 := n0_; have HB := n1_; clear n0_ n1_; (try clear hb); (try clear hb2); (try clear hk); (try clear hi); (try clear ho0)))
 (try simp only [aS])
 go_cut [37] (fun v37 wc => ∃ (kq : Nat) (x37_2 : Bool), v37 = .bool x37_2 ∧ Aside0 (clapperref11_Parse.j0 kq t215 x37_2 = some (r1, r2)) ∧ Aside0 (kq ≤ k) ∧ Aside0 (Kd.S k48 48 wc w.heap.size (fun _ => True) v217 t215) ∧ Aside0 (Below w.heap.size w wc))
 case first =>
  have H := HC3.out
  clear HC3
  by_cases c5 : t216 = true
  ·subst c5
   have H1 : (if (t215.length : Int) = 1 then (if 0 < (t215.length : Int) then (if ((rd_T48 t215 0).f0) = 1 then (clapperref11_Parse.j0 k t215 (((((rd_T48 t215 0).f1).length : Int) % 16) != 0)) else (clapperref11_Parse.j0 k t215 true)) else (none)) else (clapperref11_Parse.j0 k t215 true)) = some (r1, r2) := by rw [if_pos rfl] at H; exact H
   clear H
   have H := H1
   clear H1
   by_cases c6 : (t215.length : Int) = 1
   ·rw [if_pos c6] at H
    have c6b0 : ((t215.length : Int) == 1) = true := beq_iff_eq.mpr c6
    have c6b1 : ((t215.length : Int) != 1) = false := bne_eq_false_iff_eq.mpr c6
    clear c6
    (first | rw [c6b0] | (simp only [i64_w, i32_w]; rw [c6b0]) | skip)
    by_cases c7 : 0 < (t215.length : Int)
    ·rw [if_pos c7] at H
     have c7b0 : decide (0 < (t215.length : Int)) = true := decide_eq_true c7
     have c7b1 : decide (0 < t215.length) = true := decide_eq_true (by omega)
     clear c7
     by_cases c8 : ((rd_T48 t215 0).f0) = 1
     ·rw [if_pos c8] at H
      have c8b0 : (((rd_T48 t215 0).f0) == 1) = true := beq_iff_eq.mpr c8
      have c8b1 : (((rd_T48 t215 0).f0) != 1) = false := bne_eq_false_iff_eq.mpr c8
      clear c8
      have H' := Aside0.mk H
      clear H
      obtain ⟨Ao9, co9, eo9⟩ := Kd.S_slice HO218.out
      subst eo9
      have p219 : 0 ≤ (0 : Int) := (by omega)
      have q219 : 0 < (t215.length : Int) := of_decide_eq_true (by first | (with_reducible assumption) | assumption)
      obtain ⟨ad219, A219_1, c219_1, e219, hx219_0, hx219_1, hl219_1, hi219_1⟩ := at_T48 (Kd.S_reads' HO218.out).2.2 0 p219 q219
      cases e219
      obtain ⟨ce219, hce219, hMe219, hcc219⟩ := Kd.S_get HO218.out z48 0 p219 (by first | exact q219 | exact of_decide_eq_true (by first | (with_reducible assumption) | assumption) | (have e_ := (Kd.S_reads' HO218.out).1; omega))
      obtain ⟨ve219_1, rfl, ge219_1⟩ := k48_openM hMe219
      have hv219_1 := hcc219 1 _ rfl
      rw [add_field _ _ 1 (by omega)] at hv219_1
      replace hv219_1 := Option.some.inj (hv219_1.symm.trans hx219_1)
      rw [hv219_1] at ge219_1
      have HL219_1 := Aside0.mk (show Kd.R (Kd.int .u8) 5 _ _ _ _ ((rd_T48 t215 0).f1) from ge219_1)
      clear hv219_1 ge219_1
      clear hcc219 hce219
      have qi219 : (0 < t215.length) = True := eq_true (by omega)
      (try rw [show ((0 : Int)).toNat = 0 from rfl] at hx219_0)
      (try rw [show 0 * 2 = 0 from rfl] at hx219_0)
      (try rw [Addr.add_zero'] at hx219_0)
      (try rw [show ((0 : Int)).toNat = 0 from rfl] at hx219_1)
      (try rw [show 0 * 2 = 0 from rfl] at hx219_1)
      (try rw [Addr.add_zero'] at hx219_1)
      have HR219_1 := Aside0.mk hi219_1
      have HC219_1 := Aside0.mk hl219_1
      clear hi219_1 hl219_1
      replace p219 := eq_true p219
      replace q219 := eq_true q219
      have p220 : 0 ≤ (0 : Int) := (by omega)
      have q220 : 0 < (t215.length : Int) := of_decide_eq_true (by first | (with_reducible assumption) | assumption)
      obtain ⟨ad220, A220_1, c220_1, e220, hx220_0, hx220_1, hl220_1, hi220_1⟩ := at_T48 (Kd.S_reads' HO218.out).2.2 0 p220 q220
      obtain rfl : ad219 = ad220 := (by injection e220)
      obtain ⟨ce220, hce220, hMe220, hcc220⟩ := Kd.S_get HO218.out z48 0 p220 (by first | exact q220 | exact of_decide_eq_true (by first | (with_reducible assumption) | assumption) | (have e_ := (Kd.S_reads' HO218.out).1; omega))
      obtain ⟨ve220_1, rfl, ge220_1⟩ := k48_openM hMe220
      have hv220_1 := hcc220 1 _ rfl
      rw [add_field _ _ 1 (by omega)] at hv220_1
      replace hv220_1 := Option.some.inj (hv220_1.symm.trans hx220_1)
      rw [hv220_1] at ge220_1
      have HL220_1 := Aside0.mk (show Kd.R (Kd.int .u8) 5 _ _ _ _ ((rd_T48 t215 0).f1) from ge220_1)
      clear hv220_1 ge220_1
      clear hcc220 hce220
      have qi220 : (0 < t215.length) = True := eq_true (by omega)
      (try rw [show ((0 : Int)).toNat = 0 from rfl] at hx220_0)
      (try rw [show 0 * 2 = 0 from rfl] at hx220_0)
      (try rw [Addr.add_zero'] at hx220_0)
      (try rw [show ((0 : Int)).toNat = 0 from rfl] at hx220_1)
      (try rw [show 0 * 2 = 0 from rfl] at hx220_1)
      (try rw [Addr.add_zero'] at hx220_1)
      have HR220_1 := Aside0.mk hi220_1
      have HC220_1 := Aside0.mk hl220_1
      clear hi220_1 hl220_1
      replace p220 := eq_true p220
      replace q220 := eq_true q220
      have ea_ := Option.some.inj (hx219_1.symm.trans hx220_1)
      injection ea_ with ea_ en_ ec_
      subst ea_
      subst ec_
      clear en_
      go_wp2
      go_meet
      case rel => exact ⟨_, ((((((rd_T48 t215 0).f1).length : Int) % 16) != 0)), (by first | rfl | (simp; done) | (simp [*]; done)), H', ⟨by first | omega | exact Nat.le_refl _⟩, ⟨by (with_reducible repeat (first | apply Kd.S_alloc | apply Kd.S_drewN | apply Kd.S_drew)); exact HO218.out⟩, ⟨by repeat (first | (with_reducible first | exact HB.out | apply below_alloc | apply pw_below_drewN | apply below_drew1) | exact HB.out)⟩⟩
     ·rw [if_neg c8] at H
      have c8b0 : (((rd_T48 t215 0).f0) == 1) = false := beq_eq_false_iff_ne.mpr c8
      have c8b1 : (((rd_T48 t215 0).f0) != 1) = true := bne_iff_ne.mpr c8
      have H' := Aside0.mk H
      clear H
      obtain ⟨Ao10, co10, eo10⟩ := Kd.S_slice HO218.out
      subst eo10
      have p219 : 0 ≤ (0 : Int) := (by omega)
      have q219 : 0 < (t215.length : Int) := of_decide_eq_true (by first | (with_reducible assumption) | assumption)
      obtain ⟨ad219, A219_1, c219_1, e219, hx219_0, hx219_1, hl219_1, hi219_1⟩ := at_T48 (Kd.S_reads' HO218.out).2.2 0 p219 q219
      cases e219
      obtain ⟨ce219, hce219, hMe219, hcc219⟩ := Kd.S_get HO218.out z48 0 p219 (by first | exact q219 | exact of_decide_eq_true (by first | (with_reducible assumption) | assumption) | (have e_ := (Kd.S_reads' HO218.out).1; omega))
      obtain ⟨ve219_1, rfl, ge219_1⟩ := k48_openM hMe219
      have hv219_1 := hcc219 1 _ rfl
      rw [add_field _ _ 1 (by omega)] at hv219_1
      replace hv219_1 := Option.some.inj (hv219_1.symm.trans hx219_1)
      rw [hv219_1] at ge219_1
      have HL219_1 := Aside0.mk (show Kd.R (Kd.int .u8) 5 _ _ _ _ ((rd_T48 t215 0).f1) from ge219_1)
      clear hv219_1 ge219_1
      clear hcc219 hce219
      have qi219 : (0 < t215.length) = True := eq_true (by omega)
      (try rw [show ((0 : Int)).toNat = 0 from rfl] at hx219_0)
      (try rw [show 0 * 2 = 0 from rfl] at hx219_0)
      (try rw [Addr.add_zero'] at hx219_0)
      (try rw [show ((0 : Int)).toNat = 0 from rfl] at hx219_1)
      (try rw [show 0 * 2 = 0 from rfl] at hx219_1)
      (try rw [Addr.add_zero'] at hx219_1)
      have HR219_1 := Aside0.mk hi219_1
      have HC219_1 := Aside0.mk hl219_1
      clear hi219_1 hl219_1
      replace p219 := eq_true p219
      replace q219 := eq_true q219
      go_wp2
      go_meet
      case rel => exact ⟨_, (true), (by first | rfl | (simp; done) | (simp [*]; done)), H', ⟨by first | omega | exact Nat.le_refl _⟩, ⟨by (with_reducible repeat (first | apply Kd.S_alloc | apply Kd.S_drewN | apply Kd.S_drew)); exact HO218.out⟩, ⟨by repeat (first | (with_reducible first | exact HB.out | apply below_alloc | apply pw_below_drewN | apply below_drew1) | exact HB.out)⟩⟩
    ·rw [if_neg c7] at H
     exact absurd H (by simp)
   ·rw [if_neg c6] at H
    have c6b0 : ((t215.length : Int) == 1) = false := beq_eq_false_iff_ne.mpr c6
    have c6b1 : ((t215.length : Int) != 1) = true := bne_iff_ne.mpr c6
    (first | rw [c6b0] | (simp only [i64_w, i32_w]; rw [c6b0]) | skip)
    have H' := Aside0.mk H
    clear H
    obtain ⟨Ao11, co11, eo11⟩ := Kd.S_slice HO218.out
    subst eo11
    go_wp2
    go_meet
    case rel => exact ⟨_, (true), (by first | rfl | (simp; done) | (simp [*]; done)), H', ⟨by first | omega | exact Nat.le_refl _⟩, ⟨by (with_reducible repeat (first | apply Kd.S_alloc | apply Kd.S_drewN | apply Kd.S_drew)); exact HO218.out⟩, ⟨by repeat (first | (with_reducible first | exact HB.out | apply below_alloc | apply pw_below_drewN | apply below_drew1) | exact HB.out)⟩⟩
  ·replace c5 := Bool.eq_false_iff.mpr c5
   subst c5
   have H1 : (clapperref11_Parse.j0 k t215 true) = some (r1, r2) := by rw [if_neg (show ¬ (false = true) by decide)] at H; exact H
   clear H
   have H := H1
   clear H1
   have H' := Aside0.mk H
   clear H
   go_wp2
   go_meet
   case rel => exact ⟨_, (true), (by first | rfl | (simp; done) | (simp [*]; done)), H', ⟨by first | omega | exact Nat.le_refl _⟩, ⟨by (with_reducible repeat (first | apply Kd.S_alloc | apply Kd.S_drewN | apply Kd.S_drew)); exact HO218.out⟩, ⟨by repeat (first | (with_reducible first | exact HB.out | apply below_alloc | apply pw_below_drewN | apply below_drew1) | exact HB.out)⟩⟩
 case rest =>
  clear HC3
  try clear c1
  try clear c2
  try clear p2
  try clear q2
  try clear hx2
  try clear qi2
  try clear c5
  try clear c6
  try clear c6b0
  try clear c6b1
  try clear c7
  try clear c7b0
  try clear c7b1
  try clear c8
  try clear c8b0
  try clear c8b1
  try clear hx219_0
  try clear hx219_1
  try clear hx220_0
  try clear hx220_1
  try clear p219
  try clear p220
  try clear q219
  try clear q220
  obtain ⟨kq, x37_2, rfl, HA, HJ2, HO_4, HB⟩ := hcut
  cases kq with
  | zero => exact absurd HA.out (by simp [clapperref11_Parse.j0])
  | succ kj2 =>
   have H := HA.out
   clear HA
   simp only [clapperref11_Parse.j0] at H
   by_cases c12 : x37_2 = true
   ·subst c12
    have H1 : (some (([] : List (S43)), false)) = some (r1, r2) := by rw [if_pos rfl] at H; exact H
    clear H
    have H := H1
    clear H1
    simp only [Option.some.injEq, Prod.mk.injEq] at H
    obtain ⟨rfl, rfl⟩ := H
    go_wp2
    go_ret2
    exact ⟨_, by first | rfl | (simp [errW_none, errW_some] <;> rfl) | (simp [*, errW_none, errW_some] <;> rfl), by first | exact Kd.R_nil _ _ _ _ _ | exact Kd.N_nil _ _ _ _ _ | exact Kd.V_nil _ _ _ _ _ | exact Kd.Q_nil _ _ _ _ _ | exact Kd.S_nil _ _ _ _ _, by repeat (first | (with_reducible first | exact HB.out | apply below_alloc | apply pw_below_drewN | apply below_drew1) | exact HB.out)⟩
   ·replace c12 := Bool.eq_false_iff.mpr c12
    subst c12
    have H1 : (if 0 < (t215.length : Int) then (clapperref11_Parse.l0 kj2 ((rd_T48 t215 0).f1) ([] : List (S43)) 0) else (none)) = some (r1, r2) := by rw [if_neg (show ¬ (false = true) by decide)] at H; exact H
    clear H
    have H := H1
    clear H1
    by_cases c13 : 0 < (t215.length : Int)
    ·rw [if_pos c13] at H
     have c13b0 : decide (0 < (t215.length : Int)) = true := decide_eq_true c13
     have c13b1 : decide (0 < t215.length) = true := decide_eq_true (by omega)
     clear c13
     have H' := Aside0.mk H
     clear H
     obtain ⟨Ao14, co14, eo14⟩ := Kd.S_slice HO_4.out
     subst eo14
     have p221 : 0 ≤ (0 : Int) := (by omega)
     have q221 : 0 < (t215.length : Int) := of_decide_eq_true (by first | (with_reducible assumption) | assumption)
     obtain ⟨ad221, A221_1, c221_1, e221, hx221_0, hx221_1, hl221_1, hi221_1⟩ := at_T48 (Kd.S_reads' HO_4.out).2.2 0 p221 q221
     cases e221
     obtain ⟨ce221, hce221, hMe221, hcc221⟩ := Kd.S_get HO_4.out z48 0 p221 (by first | exact q221 | exact of_decide_eq_true (by first | (with_reducible assumption) | assumption) | (have e_ := (Kd.S_reads' HO_4.out).1; omega))
     obtain ⟨ve221_1, rfl, ge221_1⟩ := k48_openM hMe221
     have hv221_1 := hcc221 1 _ rfl
     rw [add_field _ _ 1 (by omega)] at hv221_1
     replace hv221_1 := Option.some.inj (hv221_1.symm.trans hx221_1)
     rw [hv221_1] at ge221_1
     have HL221_1 := Aside0.mk (show Kd.R (Kd.int .u8) 5 _ _ _ _ ((rd_T48 t215 0).f1) from ge221_1)
     clear hv221_1 ge221_1
     clear hcc221 hce221
     have qi221 : (0 < t215.length) = True := eq_true (by omega)
     (try rw [show ((0 : Int)).toNat = 0 from rfl] at hx221_0)
     (try rw [show 0 * 2 = 0 from rfl] at hx221_0)
     (try rw [Addr.add_zero'] at hx221_0)
     (try rw [show ((0 : Int)).toNat = 0 from rfl] at hx221_1)
     (try rw [show 0 * 2 = 0 from rfl] at hx221_1)
     (try rw [Addr.add_zero'] at hx221_1)
     have HR221_1 := Aside0.mk hi221_1
     have HC221_1 := Aside0.mk hl221_1
     clear hi221_1 hl221_1
     replace p221 := eq_true p221
     replace q221 := eq_true q221
     go_wp2
     have HBc := HB
     clear HB
     have HB : Aside0 (Below wc.heap.size wc wc) := Aside0.mk (Below.refl _ _)
     go_loopg [7, 8] kj2 (fun kq v7 v8 w' => ∃ (x7_2 : List (S43)) (x8_2 : Int), v8 = .int .i64 x8_2 ∧ Aside0 (clapperref11_Parse.l0 kq ((rd_T48 t215 0).f1) x7_2 x8_2 = some (r1, r2)) ∧ Aside0 (kq ≤ kj2) ∧ Aside0 (Kd.R k43 43 w' wc.heap.size (fun _ => True) v7 x7_2) ∧ Aside0 (Below wc.heap.size wc w'))
     case atStart => exact ⟨(([] : List (S43))), (0), (by first | rfl | (simp; done) | (simp [*]; done)), H', ⟨Nat.le_refl _⟩, ⟨by first | exact Kd.R_nil _ _ _ _ _ | exact Kd.N_nil _ _ _ _ _ | exact Kd.V_nil _ _ _ _ _ | exact Kd.Q_nil _ _ _ _ _ | exact Kd.S_nil _ _ _ _ _⟩, ⟨by repeat (first | (with_reducible first | exact HB.out | apply below_alloc | apply pw_below_drewN | apply below_drew1) | exact HB.out)⟩⟩
     case round =>
      clear H'
      try clear c1
      try clear c2
      try clear p2
      try clear q2
      try clear hx2
      try clear qi2
      try clear c5
      try clear c6
      try clear c6b0
      try clear c6b1
      try clear c7
      try clear c7b0
      try clear c7b1
      try clear c8
      try clear c8b0
      try clear c8b1
      try clear c12
      try clear c13
      try clear c13b0
      try clear c13b1
      try clear hx219_0
      try clear hx219_1
      try clear hx220_0
      try clear hx220_1
      try clear hx221_0
      try clear hx221_1
      try clear p2
      try clear p219
      try clear p220
      try clear p221
      try clear q2
      try clear q219
      try clear q220
      try clear q221
      obtain ⟨x7_2, x8_2, rfl, HA, HK2, HO_7, HB⟩ := hrel
      cases gk with
      | zero => exact absurd HA.out (by simp [clapperref11_Parse.l0])
      | succ k2 =>
       have H := HA.out
       clear HA
       simp only [clapperref11_Parse.l0] at H
       by_cases c15 : x8_2 < (((rd_T48 t215 0).f1).length : Int)
       ·rw [if_pos c15] at H
        have c15b0 : decide (x8_2 < (((rd_T48 t215 0).f1).length : Int)) = true := decide_eq_true c15
        clear c15
        by_cases c16 : 0 ≤ x8_2
        ·rw [if_pos c16] at H
         have c16b0 := eq_true c16
         have c16b1 : decide (0 ≤ x8_2) = true := decide_eq_true c16
         clear c16
         by_cases c17 : x8_2 ≤ (wrap64 (x8_2 + 8))
         ·rw [if_pos c17] at H
          have c17b0 := eq_true c17
          have c17b1 : decide (x8_2 ≤ (wrap64 (x8_2 + 8))) = true := decide_eq_true c17
          by_cases c18 : (wrap64 (x8_2 + 8)) ≤ (((rd_T48 t215 0).f1).length : Int)
          ·rw [if_pos c18] at H
           have c18b0 := eq_true c18
           have c18b1 : decide ((wrap64 (x8_2 + 8)) ≤ (((rd_T48 t215 0).f1).length : Int)) = true := decide_eq_true c18
           replace H := Option.bind_eq_some_iff.mp H
           obtain ⟨t223, A190, H⟩ := H
           replace H : (if 0 ≤ (wrap64 (x8_2 + 8)) then (if (wrap64 (x8_2 + 8)) ≤ (wrap64 (x8_2 + 16)) then (if (wrap64 (x8_2 + 16)) ≤ (((rd_T48 t215 0).f1).length : Int) then ((clapperref08_Of.f k2 ((((rd_T48 t215 0).f1).take ((wrap64 (x8_2 + 16)) : Int).toNat).drop ((wrap64 (x8_2 + 8)) : Int).toNat)).bind fun t225 => (if x7_2.length < 8796093022208 then (clapperref11_Parse.l0 k2 ((rd_T48 t215 0).f1) (x7_2 ++ [(⟨t223, t225⟩ : S43)]) (wrap64 (x8_2 + 16))) else (none))) else (none)) else (none)) else (none)) = some (r1, r2) := H
           have A19 := Aside0.mk A190
           clear A190
           obtain ⟨ji20, hji20⟩ : ∃ j_ : Int, (wrap64 (x8_2 + 8)) = j_ := ⟨_, rfl⟩
           replace H : (if 0 ≤ (ji20) then (if (ji20) ≤ (wrap64 (x8_2 + 16)) then (if (wrap64 (x8_2 + 16)) ≤ (((rd_T48 t215 0).f1).length : Int) then ((clapperref08_Of.f k2 ((((rd_T48 t215 0).f1).take ((wrap64 (x8_2 + 16)) : Int).toNat).drop ((ji20) : Int).toNat)).bind fun t225 => (if x7_2.length < 8796093022208 then (clapperref11_Parse.l0 k2 ((rd_T48 t215 0).f1) (x7_2 ++ [(⟨t223, t225⟩ : S43)]) (wrap64 (x8_2 + 16))) else (none))) else (none)) else (none)) else (none)) = some (r1, r2) := by first | (rw [hji20] at H; exact H) | (simp only [hji20] at H ⊢; exact H)
           (try rw [hji20] at c17b0)
           (try rw [hji20] at c17b1)
           (try rw [hji20] at c17)
           (try rw [hji20] at c18b0)
           (try rw [hji20] at c18b1)
           (try rw [hji20] at c18)
           (try rw [hji20] at A19)
           have hji20w : (IntKind.i64.wrap (x8_2 + 8)) = ji20 := (i64_w _).trans hji20
           by_cases c21 : 0 ≤ (ji20)
           ·rw [if_pos c21] at H
            have c21b0 := eq_true c21
            have c21b1 : decide (0 ≤ (ji20)) = true := decide_eq_true c21
            clear c21
            by_cases c22 : (ji20) ≤ (wrap64 (x8_2 + 16))
            ·rw [if_pos c22] at H
             have c22b0 := eq_true c22
             have c22b1 : decide ((ji20) ≤ (wrap64 (x8_2 + 16))) = true := decide_eq_true c22
             by_cases c23 : (wrap64 (x8_2 + 16)) ≤ (((rd_T48 t215 0).f1).length : Int)
             ·rw [if_pos c23] at H
              have c23b0 := eq_true c23
              have c23b1 : decide ((wrap64 (x8_2 + 16)) ≤ (((rd_T48 t215 0).f1).length : Int)) = true := decide_eq_true c23
              replace H := Option.bind_eq_some_iff.mp H
              obtain ⟨t225, A240, H⟩ := H
              replace H : (if x7_2.length < 8796093022208 then (clapperref11_Parse.l0 k2 ((rd_T48 t215 0).f1) (x7_2 ++ [(⟨t223, t225⟩ : S43)]) (wrap64 (x8_2 + 16))) else (none)) = some (r1, r2) := H
              have A24 := Aside0.mk A240
              clear A240
              by_cases c25 : x7_2.length < 8796093022208
              ·rw [if_pos c25] at H
               have LMc25 := Aside0.mk c25
               clear c25
               obtain ⟨y226, hy226⟩ : ∃ y_ : List (S43), y_ = (x7_2 ++ [(⟨t223, t225⟩ : S43)]) := ⟨_, rfl⟩
               replace H : (clapperref11_Parse.l0 k2 ((rd_T48 t215 0).f1) y226 (wrap64 (x8_2 + 16))) = some (r1, r2) := by first | (rw [hy226]; with_reducible exact H) | (have H2_ := (Option.bind_some _ _).symm.trans H; rw [hy226]; with_reducible exact H2_) | (have H2_ := (Option.bind_some _ _).symm.trans H; with_reducible exact H2_) | with_reducible exact H | (rw [hy226]; exact H) | exact H
               have Ny226 := Aside0.mk hy226
               clear hy226
               have H' := Aside0.mk H
               clear H
               try go_wp2
               have n0_ := Aside0.mk (Kd.R_drew HO_7.out)
               have n1_ := Aside0.mk (below_drew1 HB.out)
               clear HO_7
               clear HB
               have HO_7 := n0_
               have HB := n1_
               clear n0_ n1_
               obtain ⟨i027, hi027, _, hsz27, _⟩ := info_parts info5
               obtain ⟨A27, hcut27, hA27, hC27⟩ := print_mid_of (P := Try.prog) (Value.int .u8) 0 32 5 .i64 .i64 Try.underlying32 hi027 hsz27 A221_1 c221_1 ((rd_T48 t215 0).f1) x8_2 (ji20) (of_decide_eq_true (by first | (with_reducible assumption) | assumption)) (by first | omega | exact of_decide_eq_true (by first | (with_reducible assumption) | assumption)) (of_decide_eq_true (by first | (with_reducible assumption) | assumption)) HC221_1.out
               have HR222 := Aside0.mk (Kd.C_of_reads (h1 := fun _ => rfl) (hA27 _ (Kd.reads_of_C HR221_1.out)))
               have HC222 := Aside0.mk hC27
               clear hA27 hC27 hi027 hsz27
               obtain ⟨i028, hi028, _, hsz28, _⟩ := info_parts info5
               obtain ⟨A28, hcut28, hA28, hC28⟩ := print_mid_of (P := Try.prog) (Value.int .u8) 0 32 5 .i64 .i64 Try.underlying32 hi028 hsz28 A221_1 c221_1 ((rd_T48 t215 0).f1) (ji20) (wrap64 (x8_2 + 16)) (of_decide_eq_true (by first | (with_reducible assumption) | assumption)) (by first | omega | exact of_decide_eq_true (by first | (with_reducible assumption) | assumption)) (of_decide_eq_true (by first | (with_reducible assumption) | assumption)) HC221_1.out
               have HR224 := Aside0.mk (Kd.C_of_reads (h1 := fun _ => rfl) (hA28 _ (Kd.reads_of_C HR221_1.out)))
               have HC224 := Aside0.mk hC28
               clear hA28 hC28 hi028 hsz28
               refine start_ (n := 18) (S := fun w' => True) (ds := []) (bs 18 0) (by kernel_rfl) rfl rfl trivial (fun hHeld => ?_); refine with_tabW clapperref11_Parse.tab9 clapperref11_Parse.bits9 (fun HT_ HW_ => ?_)
               generalize wr.drew = w26 at HO_7 HB HR222 HR224 hHeld ⊢
               refine pure_ (i := 0) (N := some 48) (v := ?_) (a' := ?_) (bs 18 1) rfl rfl (any_of HT_.out (by kernel_rfl)) (fun _ _ _ h => h) (Or.inl ⟨by rfl, ?_⟩) ?_ ?_
               rotate_left
               ·intro w'
                go_simp
                with_reducible rfl
               rotate_left
               ·simp only [aS, i64_w, i32_w]
                rfl
               refine pure_ (i := 1) (N := some 49) (v := ?_) (a' := ?_) (bs 18 3) rfl rfl (any_of HT_.out (by kernel_rfl)) (fun _ _ _ h => h) (Or.inl ⟨by rfl, ?_⟩) ?_ ?_
               rotate_left
               ·intro w'
                go_simp
                with_reducible rfl
               rotate_left
               ·simp only [aS, i64_w, i32_w]
                rfl
               refine pure_ (i := 2) (N := some 50) (v := ?_) (a' := ?_) (bs 18 7) rfl rfl (any_of HT_.out (by kernel_rfl)) (fun _ _ _ h => h) (Or.inl ⟨by rfl, ?_⟩) ?_ ?_
               rotate_left
               ·intro w'
                go_simp
                with_reducible rfl
               rotate_left
               ·simp only [aS, i64_w, i32_w]
                rfl
               refine pure_ (i := 3) (N := some 51) (v := ?_) (a' := ?_) (bs 18 15) rfl rfl (any_of HT_.out (by kernel_rfl)) (fun _ _ _ h => h) (Or.inl ⟨by rfl, ?_⟩) ?_ ?_
               rotate_left
               ·intro w'
                go_simp
                with_reducible rfl
               rotate_left
               ·simp only [aS, i64_w, i32_w]
                rfl
               refine pure_ (i := 4) (N := some 52) (v := ?_) (a' := ?_) (bs 18 31) rfl rfl (any_of HT_.out (by kernel_rfl)) (fun _ _ _ h => h) (Or.inl ⟨by rfl, ?_⟩) ?_ ?_
               rotate_left
               ·intro w'
                go_simp
                with_reducible rfl
               rotate_left
               ·simp only [aS, i64_w, i32_w]
                rfl
               refine pure_ (i := 5) (N := some 53) (v := ?_) (a' := ?_) (bs 18 63) rfl rfl (any_of HT_.out (by kernel_rfl)) (fun _ _ _ h => h) (Or.inl ⟨by rfl, ?_⟩) ?_ ?_
               rotate_left
               ·intro w'
                go_simp
                with_reducible rfl
               rotate_left
               ·simp only [aS, i64_w, i32_w]
                rfl
               refine pure_ (i := 7) (N := some 55) (v := ?_) (a' := ?_) (bs 18 191) rfl rfl (any_of HT_.out (by kernel_rfl)) (fun _ _ _ h => h) (Or.inl ⟨by rfl, ?_⟩) ?_ ?_
               rotate_left
               ·intro w'
                go_simp
                with_reducible rfl
               rotate_left
               ·simp only [aS, i64_w, i32_w]
                rfl
               refine pure_ (i := 8) (N := some 56) (v := ?_) (a' := ?_) (bs 18 447) rfl rfl (any_of HT_.out (by kernel_rfl)) (fun _ _ _ h => h) (Or.inl ⟨by rfl, ?_⟩) ?_ ?_
               rotate_left
               ·intro w'
                go_simp
                with_reducible rfl
               rotate_left
               ·simp only [aS, i64_w, i32_w]
                rfl
               refine pure_ (i := 9) (N := some 57) (v := ?_) (a' := ?_) (bs 18 959) rfl rfl (any_of HT_.out (by kernel_rfl)) (fun _ _ _ h => h) (Or.inl ⟨by rfl, ?_⟩) ?_ ?_
               rotate_left
               ·intro w'
                go_simp
                with_reducible rfl
               rotate_left
               ·simp only [aS, i64_w, i32_w]
                rfl
               refine pure_ (i := 10) (N := some 58) (v := ?_) (a' := ?_) (bs 18 1983) rfl rfl (any_of HT_.out (by kernel_rfl)) (fun _ _ _ h => h) (Or.inl ⟨by rfl, ?_⟩) ?_ ?_
               rotate_left
               ·intro w'
                go_simp
                with_reducible rfl
               rotate_left
               ·simp only [aS, i64_w, i32_w]
                rfl
               refine pure_ (i := 11) (N := some 59) (v := ?_) (a' := ?_) (bs 18 4031) rfl rfl (any_of HT_.out (by kernel_rfl)) (fun _ _ _ h => h) (Or.inl ⟨by rfl, ?_⟩) ?_ ?_
               rotate_left
               ·intro w'
                go_simp
                with_reducible rfl
               rotate_left
               ·simp only [aS, i64_w, i32_w]
                rfl
               refine pure_ (i := 12) (N := some 60) (v := ?_) (a' := ?_) (bs 18 8127) rfl rfl (any_of HT_.out (by kernel_rfl)) (fun _ _ _ h => h) (Or.inl ⟨by rfl, ?_⟩) ?_ ?_
               rotate_left
               ·intro w'
                go_simp
                with_reducible rfl
               rotate_left
               ·simp only [aS, i64_w, i32_w]
                rfl
               refine one_ (i := 6) (N := some 54) (bs 18 8191) rfl rfl (one_of HT_.out (by kernel_rfl)) (by decide) (fun K hK => ?_)
               refine goes_ Try.func29 (by kernel_rfl) rfl #[.slice A27 ((((rd_T48 t215 0).f1).take ((ji20) : Int).toNat).drop (x8_2 : Int).toNat).length (c221_1 - x8_2.toNat)] (by rfl) rfl rfl (by (try simp only [List.map_toArray, List.map_cons, List.map_nil]); first | done | (rw [show ((((rd_T48 t215 0).f1).take ((ji20) : Int).toNat).drop (x8_2 : Int).toNat).length = ((ji20).toNat - x8_2.toNat) from (by rw [List.length_drop, List.length_take]; have h_ : ((ji20) : Int) ≤ (((rd_T48 t215 0).f1).length : Int) := of_decide_eq_true (by first | (with_reducible assumption) | assumption); omega)] <;> rfl) | (simp only [hji20]; rfl) | rfl | (simp only [List.length_drop, List.length_take]; rfl)) ?_
               with_reducible refine (clapperref08_Of.calls k2 _ _ ((((rd_T48 t215 0).f1).take ((ji20) : Int).toNat).drop (x8_2 : Int).toNat) t223 _ ?side1 ?side2 A19.out).mono ?_
               (case side1 => repeat (first | exact (Kd.C_below HR222.out HB.out) | (with_reducible refine Kd.C_alloc ?_ _) | (with_reducible refine Kd.C_drewN ?_ _) | (with_reducible refine Kd.C_drew ?_)))
               (case side2 => exact HC222.out)
               rintro e w' ⟨rfl, ⟨nd, rfl⟩⟩
               refine ⟨_, rfl, ?_⟩
               refine hK.out _ _ trivial (fun hHeld => ?_)
               clear hK K
               refine nm_ (some 54) ?_
               refine one_ (i := 13) (N := some 61) (bs 18 16383) rfl rfl (one_of HT_.out (by kernel_rfl)) (by decide) (fun K hK => ?_)
               refine goes_ Try.func29 (by kernel_rfl) rfl #[.slice A28 ((((rd_T48 t215 0).f1).take ((wrap64 (x8_2 + 16)) : Int).toNat).drop ((ji20) : Int).toNat).length (c221_1 - (ji20).toNat)] (by rfl) rfl rfl (by (try simp only [List.map_toArray, List.map_cons, List.map_nil]); first | done | (rw [show ((((rd_T48 t215 0).f1).take ((wrap64 (x8_2 + 16)) : Int).toNat).drop ((ji20) : Int).toNat).length = ((wrap64 (x8_2 + 16)).toNat - (ji20).toNat) from (by rw [List.length_drop, List.length_take]; have h_ : ((wrap64 (x8_2 + 16)) : Int) ≤ (((rd_T48 t215 0).f1).length : Int) := of_decide_eq_true (by first | (with_reducible assumption) | assumption); omega)] <;> rfl) | (simp only [hji20]; rfl) | rfl | (simp only [List.length_drop, List.length_take]; rfl)) ?_
               with_reducible refine (clapperref08_Of.calls k2 _ _ ((((rd_T48 t215 0).f1).take ((wrap64 (x8_2 + 16)) : Int).toNat).drop ((ji20) : Int).toNat) t225 _ ?side1 ?side2 A24.out).mono ?_
               (case side1 => repeat (first | exact (Kd.C_below HR224.out (by repeat (first | (with_reducible first | exact HB.out | apply below_alloc | apply pw_below_drewN | apply below_drew1) | exact HB.out))) | (with_reducible refine Kd.C_alloc ?_ _) | (with_reducible refine Kd.C_drewN ?_ _) | (with_reducible refine Kd.C_drew ?_)))
               (case side2 => exact HC224.out)
               rintro e w' ⟨rfl, ⟨nd, rfl⟩⟩
               refine ⟨_, rfl, ?_⟩
               refine hK.out _ _ trivial (fun hHeld => ?_)
               clear hK K
               refine nm_ (some 61) ?_
               refine pure_ (i := 14) (N := some 62) (v := ?_) (a' := ?_) (bs 18 32767) rfl rfl (any_of HT_.out (by kernel_rfl)) (fun _ _ _ h => h) (Or.inl ⟨by rfl, ?_⟩) ?_ ?_
               rotate_left
               ·intro w'
                go_simp
                with_reducible rfl
               rotate_left
               ·simp only [aS, i64_w, i32_w]
                rfl
               refine one_ (i := 15) (N := some 63) (bs 18 65535) rfl rfl (one_of HT_.out (by kernel_rfl)) (by decide) (fun K hK => ?_)
               refine value_ (w1 := ?_) (v := ?_) (by rfl) rfl ?_ ?_
               rotate_left 2
               ·go_simp
                constructor
                ·rfl
                ·rfl
               refine hK.out _ _ trivial (fun hHeld => ?_)
               clear hK K
               refine nm_ (some 63) ?_
               refine one_ (i := 16) (N := some 64) (bs 18 131071) rfl rfl (one_of HT_.out (by kernel_rfl)) (by decide) (fun K hK => ?_)
               refine Kd.R_append_step k43 (w0 := wc) wc.heap.size (by rfl) (.tmp 48) (.tmp 63) 22 43 (.agg #[(.int .i64 0), (.int .i64 0)]) 16 rfl Try.underlying22 info43 rfl (by decide) (by omega) u7 x7_2 (⟨t223, t225⟩ : S43) [.int .i64 t223, .int .i64 t225] (fun _ => True) (fun _ => False) rfl rfl ?aP (fun _ hk => hk.elim) ?aF ?aO ?aB ?aS ?aL ?_
               (case aP => exact k43_mkM _ _ _ (⟨t223, t225⟩ : S43))
               (case aB => exact (by repeat (first | (with_reducible first | exact HB.out | apply below_alloc | apply pw_below_drewN | apply below_drew1) | exact HB.out)))
               (case aF => exact (fun _ _ => trivial))
               (case aO => exact (by (with_reducible repeat (first | apply Kd.R_alloc | apply Kd.R_drewN | apply Kd.R_drew)); exact HO_7.out))
               (case aS => exact (below_size (by repeat (first | (with_reducible first | exact HB.out | apply below_alloc | apply pw_below_drewN | apply below_drew1) | exact HB.out))))
               (case aL => have := LMc25.out; omega)
               intro v227 w29 ho hb hg hat
               rw [← Ny226.out] at ho
               have n0_ := Aside0.mk (hb)
               have n1_ := Aside0.mk (ho)
               clear HB
               clear HO_7
               have HB := n0_
               have HO228 := n1_
               clear n0_ n1_
               clear ho hb hg hat
               refine hK.out _ _ trivial (fun hHeld => ?_)
               clear hK K
               refine nm_ (some 64) ?_
               refine pure_ (i := 17) (N := some 7) (v := ?_) (a' := ?_) (bs 18 262143) rfl rfl (any_of HT_.out (by kernel_rfl)) (fun _ _ _ h => h) (Or.inl ⟨by rfl, ?_⟩) ?_ ?_
               rotate_left
               ·intro w'
                go_simp
                with_reducible rfl
               rotate_left
               ·simp only [aS, i64_w, i32_w]
                rfl
               refine done_ (done_of HT_.out (by kernel_rfl)) ?_
               try go_wp2
               go_roundg k2
               case measure => have := HJ2.out; have := HK2.out; omega
               case rel => exact ⟨(y226), (wrap64 (x8_2 + 16)), (by first | rfl | (simp; done) | (simp [*]; done)), H', ⟨by have := HJ2.out; have := HK2.out; omega⟩, ⟨by (with_reducible repeat (first | apply Kd.R_alloc | apply Kd.R_drewN | apply Kd.R_drew)); exact HO228.out⟩, ⟨by repeat (first | (with_reducible first | exact HB.out | apply below_alloc | apply pw_below_drewN | apply below_drew1) | exact HB.out)⟩⟩
              ·rw [if_neg c25] at H
               exact absurd H (by simp)
             ·rw [if_neg c23] at H
              exact absurd H (by simp)
            ·rw [if_neg c22] at H
             exact absurd H (by simp)
           ·rw [if_neg c21] at H
            exact absurd H (by simp)
          ·rw [if_neg c18] at H
           exact absurd H (by simp)
         ·rw [if_neg c17] at H
          exact absurd H (by simp)
        ·rw [if_neg c16] at H
         exact absurd H (by simp)
       ·rw [if_neg c15] at H
        have c15b0 : decide (x8_2 < (((rd_T48 t215 0).f1).length : Int)) = false := decide_eq_false c15
        clear c15
        replace H := Option.bind_eq_some_iff.mp H
        obtain ⟨t229, A300, H⟩ := H
        replace H : (if t229 = true then (some (x7_2, true)) else (some (([] : List (S43)), false))) = some (r1, r2) := H
        have A30 := Aside0.mk A300
        clear A300
        by_cases c31 : t229 = true
        ·subst c31
         have H1 : (some (x7_2, true)) = some (r1, r2) := by rw [if_pos rfl] at H; exact H
         clear H
         have H := H1
         clear H1
         simp only [Option.some.injEq, Prod.mk.injEq] at H
         obtain ⟨rfl, rfl⟩ := H
         obtain ⟨Ao32, co32, eo32⟩ := Kd.R_slice HO_7.out
         subst eo32
         go_wp2_with (first | ((with_reducible refine gate_callee (f := 8) rfl ?_); refine goesL_ (some 66) rfl rfl Try.func8 (by kernel_rfl) rfl #[.slice Ao32 x7_2.length co32] rfl (by (try simp only [List.map_toArray, List.map_cons, List.map_nil]); first | done | rfl | (simp only [List.length_drop, List.length_take]; rfl)) ?_; (with_reducible refine (clapperref11_May.calls k2 _ _ x7_2 true _ ?side1 ?side2 A30.out).mono ?_); (case side1 => repeat (first | exact (Kd.R_reads' HO_7.out).2.2 | (with_reducible refine Kd.C_alloc ?_ _) | (with_reducible refine Kd.C_drewN ?_ _) | (with_reducible refine Kd.C_drew ?_))); (case side2 => exact (Kd.R_reads' HO_7.out).2.1); rintro e w' ⟨rfl, ⟨nd, rfl⟩⟩; refine ⟨_, rfl, ?_⟩))
         go_ret2
         exact ⟨_, by first | rfl | (simp [errW_none, errW_some] <;> rfl) | (simp [*, errW_none, errW_some] <;> rfl), Kd.R_lower (by (with_reducible repeat (first | apply Kd.R_alloc | apply Kd.R_drewN | apply Kd.R_drew)); exact HO_7.out) (below_size HBc.out), below_step HBc.out (by repeat (first | (with_reducible first | exact HB.out | apply below_alloc | apply pw_below_drewN | apply below_drew1) | exact HB.out))⟩
        ·replace c31 := Bool.eq_false_iff.mpr c31
         subst c31
         have H1 : (some (([] : List (S43)), false)) = some (r1, r2) := by rw [if_neg (show ¬ (false = true) by decide)] at H; exact H
         clear H
         have H := H1
         clear H1
         simp only [Option.some.injEq, Prod.mk.injEq] at H
         obtain ⟨rfl, rfl⟩ := H
         obtain ⟨Ao33, co33, eo33⟩ := Kd.R_slice HO_7.out
         subst eo33
         go_wp2_with (first | ((with_reducible refine gate_callee (f := 8) rfl ?_); refine goesL_ (some 66) rfl rfl Try.func8 (by kernel_rfl) rfl #[.slice Ao33 x7_2.length co33] rfl (by (try simp only [List.map_toArray, List.map_cons, List.map_nil]); first | done | rfl | (simp only [List.length_drop, List.length_take]; rfl)) ?_; (with_reducible refine (clapperref11_May.calls k2 _ _ x7_2 false _ ?side1 ?side2 A30.out).mono ?_); (case side1 => repeat (first | exact (Kd.R_reads' HO_7.out).2.2 | (with_reducible refine Kd.C_alloc ?_ _) | (with_reducible refine Kd.C_drewN ?_ _) | (with_reducible refine Kd.C_drew ?_))); (case side2 => exact (Kd.R_reads' HO_7.out).2.1); rintro e w' ⟨rfl, ⟨nd, rfl⟩⟩; refine ⟨_, rfl, ?_⟩))
         go_ret2
         exact ⟨_, by first | rfl | (simp [errW_none, errW_some] <;> rfl) | (simp [*, errW_none, errW_some] <;> rfl), by first | exact Kd.R_nil _ _ _ _ _ | exact Kd.N_nil _ _ _ _ _ | exact Kd.V_nil _ _ _ _ _ | exact Kd.Q_nil _ _ _ _ _ | exact Kd.S_nil _ _ _ _ _, below_step HBc.out (by repeat (first | (with_reducible first | exact HB.out | apply below_alloc | apply pw_below_drewN | apply below_drew1) | exact HB.out))⟩
    ·rw [if_neg c13] at H
     exact absurd H (by simp)
end Go.Proofs.Ytkaeoeebagndaaa.PRevokeTells
