/- What the proof of RevokeTells is made of, part 13. -/
import Derived.Test.YtkaeoeebagndaaaZRevokeTells4
import Derived.Test.YtkaeoeebagndaaaZRevokeTells5
import Derived.Test.YtkaeoeebagndaaaZRevokeTells6
import Derived.Test.YtkaeoeebagndaaaZRevokeTells7
import Derived.Test.YtkaeoeebagndaaaZRevokeTells9
import Derived.Test.YtkaeoeebagndaaaZRevokeTells11
import Derived.Test.YtkaeoeebagndaaaZRevokeTells12
import Derived.Test.YtkaeoeebagndaaaZRevokeTellsh
namespace Go.Proofs.Ytkaeoeebagndaaa.PRevokeTells
open Go.RowKit Go.Proofs.YtkaeoeebagndaaaW.PrintWords Go.Proofs.YtkaeoeebagndaaaW.PrintLast Go.Proofs.YtkaeoeebagndaaaW.PrintMore
attribute [local go_sem] max2_int min2_int max_two min_two max_three min_three max_four min_four   -- for this text's walks alone
set_option linter.unusedVariables false
set_option linter.unusedSimpArgs false
attribute [local go_sem high] u8_w cast_tmod eql_code neq_code eql_code_nil neq_code_nil eql_nil_code neq_nil_code
mutual
def clapperlaw11_RevokeTells.j0 : Nat → List (S43) → Int → Int → List Int → Bool → Bool → Option (Bool)
 | 0, _, _, _, _, _, _ => none
 | k + 1, x0, x1, x2, x3, x9, x26 => if x26 = true then (some x9) else ((clapperref11_May.f k x0).bind fun t231 => (if t231 = true then ((clapperref11_Is.f k x0 x1 x2).bind fun t232 => (clapperlaw11_RevokeTells.j1 k x0 x1 x2 x3 x9 t231 t232)) else (clapperlaw11_RevokeTells.j1 k x0 x1 x2 x3 x9 t231 false)))
def clapperlaw11_RevokeTells.j1 : Nat → List (S43) → Int → Int → List Int → Bool → Bool → Bool → Option (Bool)
 | 0, _, _, _, _, _, _, _ => none
 | k + 1, x0, x1, x2, x3, x9, x10, x11 => (revoke_Bytes.f k x0).bind fun bt233 => ((revoke_May.f k x0).bind fun t237 => (if (t237 != x10) = true then (clapperlaw11_RevokeTells.j2 k x3 x9 true) else ((revoke_Is.f k x0 x1 x2).bind fun t238 => (if (t238 != x11) = true then (clapperlaw11_RevokeTells.j2 k x3 x9 true) else (if x10 = true then (if bt233.2.isNone = true then ((clapperref11_Bytes.f k x0).bind fun t240 => (if (strOfNums bt233.1).toList = t240.toList then (clapperlaw11_RevokeTells.j2 k x3 x9 false) else (clapperlaw11_RevokeTells.j2 k x3 x9 true))) else (clapperlaw11_RevokeTells.j2 k x3 x9 true)) else (if bt233.2.isNone = true then (clapperlaw11_RevokeTells.j2 k x3 x9 true) else (if (bt233.2.getD 0) = 1 then (clapperlaw11_RevokeTells.j2 k x3 x9 ((bt233.1.length : Int) != 0)) else (clapperlaw11_RevokeTells.j2 k x3 x9 true))))))))
def clapperlaw11_RevokeTells.j2 : Nat → List Int → Bool → Bool → Option (Bool)
 | 0, _, _, _ => none
 | k + 1, x3, x9, x81 => if x81 = true then (some false) else ((revoke_Parse.f k x3).bind fun bt242 => ((clapperref11_Parse.f k x3).bind fun bt246 => (if bt246.2 = true then (if x9 = true then (if bt242.2.isNone = true then ((clapperref11_Same.f k bt242.1 bt246.1).bind fun t251 => (some t251)) else (some false)) else (some false)) else (if x9 = true then (if bt242.2.isNone = true then (some false) else (if (bt242.2.getD 0) = 2 then (some ((bt242.1.length : Int) == 0)) else (some false))) else (some false)))))
end
def clapperlaw11_RevokeTells.f (k : Nat) (l0 : List (S43)) (a1 : Int) (a2 : Int) (l3 : List Int) : Option (Bool) := (clapperlaw11_up.f k).bind fun t230 => (if (l0.length : Int) > 300 then (clapperlaw11_RevokeTells.j0 k l0 a1 a2 l3 t230 true) else (clapperlaw11_RevokeTells.j0 k l0 a1 a2 l3 t230 (decide ((l3.length : Int) > 8000))))
theorem clapperlaw11_RevokeTells.mono_l : ∀ k, (∀ y0 y1 y2 y3 y4 y5, LeO (clapperlaw11_RevokeTells.j0 k y0 y1 y2 y3 y4 y5) (clapperlaw11_RevokeTells.j0 (k + 1) y0 y1 y2 y3 y4 y5)) ∧ (∀ y0 y1 y2 y3 y4 y5 y6, LeO (clapperlaw11_RevokeTells.j1 k y0 y1 y2 y3 y4 y5 y6) (clapperlaw11_RevokeTells.j1 (k + 1) y0 y1 y2 y3 y4 y5 y6)) ∧ (∀ y0 y1 y2, LeO (clapperlaw11_RevokeTells.j2 k y0 y1 y2) (clapperlaw11_RevokeTells.j2 (k + 1) y0 y1 y2))
 | 0 => ⟨fun _ _ _ _ _ _ r h => by simp [clapperlaw11_RevokeTells.j0] at h, fun _ _ _ _ _ _ _ r h => by simp [clapperlaw11_RevokeTells.j1] at h, fun _ _ _ r h => by simp [clapperlaw11_RevokeTells.j2] at h⟩
 | k + 1 => by
  obtain ⟨ih0, ih1, ih2⟩ := clapperlaw11_RevokeTells.mono_l k
  refine ⟨?_, ?_, ?_⟩
  ·intro y0 y1 y2 y3 y4 y5
   unfold clapperlaw11_RevokeTells.j0
   repeat' first
   | (with_reducible exact ih0 _ _ _ _ _ _)
   | (with_reducible exact ih1 _ _ _ _ _ _ _)
   | (with_reducible exact ih2 _ _ _)
   | (with_reducible exact clapperlaw11_up.mono _)
   | (with_reducible exact clapperref11_Bytes.mono _ _)
   | (with_reducible exact clapperref11_Is.mono _ _ _ _)
   | (with_reducible exact clapperref11_May.mono _ _)
   | (with_reducible exact clapperref11_Parse.mono _ _)
   | (with_reducible exact clapperref11_Same.mono _ _ _)
   | (with_reducible exact revoke_Bytes.mono _ _)
   | (with_reducible exact revoke_Is.mono _ _ _ _)
   | (with_reducible exact revoke_May.mono _ _)
   | (with_reducible exact revoke_Parse.mono _ _)
   | (with_reducible exact LeO.refl _)
   | (with_reducible exact LeO.none _)
   | (with_reducible refine LeO.ite ?_ ?_)
   | (with_reducible refine LeO.bind ?_ (fun _ => ?_))
   | exact ih0 _ _ _ _ _ _
   | exact ih1 _ _ _ _ _ _ _
   | exact ih2 _ _ _
   | exact clapperlaw11_up.mono _
   | exact clapperref11_Bytes.mono _ _
   | exact clapperref11_Is.mono _ _ _ _
   | exact clapperref11_May.mono _ _
   | exact clapperref11_Parse.mono _ _
   | exact clapperref11_Same.mono _ _ _
   | exact revoke_Bytes.mono _ _
   | exact revoke_Is.mono _ _ _ _
   | exact revoke_May.mono _ _
   | exact revoke_Parse.mono _ _
   | exact LeO.none _
   | refine LeO.ite ?_ ?_
   | refine LeO.bind ?_ (fun _ => ?_)
  ·intro y0 y1 y2 y3 y4 y5 y6
   unfold clapperlaw11_RevokeTells.j1
   repeat' first
   | (with_reducible exact ih0 _ _ _ _ _ _)
   | (with_reducible exact ih1 _ _ _ _ _ _ _)
   | (with_reducible exact ih2 _ _ _)
   | (with_reducible exact clapperlaw11_up.mono _)
   | (with_reducible exact clapperref11_Bytes.mono _ _)
   | (with_reducible exact clapperref11_Is.mono _ _ _ _)
   | (with_reducible exact clapperref11_May.mono _ _)
   | (with_reducible exact clapperref11_Parse.mono _ _)
   | (with_reducible exact clapperref11_Same.mono _ _ _)
   | (with_reducible exact revoke_Bytes.mono _ _)
   | (with_reducible exact revoke_Is.mono _ _ _ _)
   | (with_reducible exact revoke_May.mono _ _)
   | (with_reducible exact revoke_Parse.mono _ _)
   | (with_reducible exact LeO.refl _)
   | (with_reducible exact LeO.none _)
   | (with_reducible refine LeO.ite ?_ ?_)
   | (with_reducible refine LeO.bind ?_ (fun _ => ?_))
   | exact ih0 _ _ _ _ _ _
   | exact ih1 _ _ _ _ _ _ _
   | exact ih2 _ _ _
   | exact clapperlaw11_up.mono _
   | exact clapperref11_Bytes.mono _ _
   | exact clapperref11_Is.mono _ _ _ _
   | exact clapperref11_May.mono _ _
   | exact clapperref11_Parse.mono _ _
   | exact clapperref11_Same.mono _ _ _
   | exact revoke_Bytes.mono _ _
   | exact revoke_Is.mono _ _ _ _
   | exact revoke_May.mono _ _
   | exact revoke_Parse.mono _ _
   | exact LeO.none _
   | refine LeO.ite ?_ ?_
   | refine LeO.bind ?_ (fun _ => ?_)
  ·intro y0 y1 y2
   unfold clapperlaw11_RevokeTells.j2
   repeat' first
   | (with_reducible exact ih0 _ _ _ _ _ _)
   | (with_reducible exact ih1 _ _ _ _ _ _ _)
   | (with_reducible exact ih2 _ _ _)
   | (with_reducible exact clapperlaw11_up.mono _)
   | (with_reducible exact clapperref11_Bytes.mono _ _)
   | (with_reducible exact clapperref11_Is.mono _ _ _ _)
   | (with_reducible exact clapperref11_May.mono _ _)
   | (with_reducible exact clapperref11_Parse.mono _ _)
   | (with_reducible exact clapperref11_Same.mono _ _ _)
   | (with_reducible exact revoke_Bytes.mono _ _)
   | (with_reducible exact revoke_Is.mono _ _ _ _)
   | (with_reducible exact revoke_May.mono _ _)
   | (with_reducible exact revoke_Parse.mono _ _)
   | (with_reducible exact LeO.refl _)
   | (with_reducible exact LeO.none _)
   | (with_reducible refine LeO.ite ?_ ?_)
   | (with_reducible refine LeO.bind ?_ (fun _ => ?_))
   | exact ih0 _ _ _ _ _ _
   | exact ih1 _ _ _ _ _ _ _
   | exact ih2 _ _ _
   | exact clapperlaw11_up.mono _
   | exact clapperref11_Bytes.mono _ _
   | exact clapperref11_Is.mono _ _ _ _
   | exact clapperref11_May.mono _ _
   | exact clapperref11_Parse.mono _ _
   | exact clapperref11_Same.mono _ _ _
   | exact revoke_Bytes.mono _ _
   | exact revoke_Is.mono _ _ _ _
   | exact revoke_May.mono _ _
   | exact revoke_Parse.mono _ _
   | exact LeO.none _
   | refine LeO.ite ?_ ?_
   | refine LeO.bind ?_ (fun _ => ?_)
theorem clapperlaw11_RevokeTells.mono : ∀ a0 a1 a2 a3 k, LeO (clapperlaw11_RevokeTells.f k a0 a1 a2 a3) (clapperlaw11_RevokeTells.f (k + 1) a0 a1 a2 a3) := by
 intro a0 a1 a2 a3 k
 obtain ⟨ih0, ih1, ih2⟩ := clapperlaw11_RevokeTells.mono_l k
 unfold clapperlaw11_RevokeTells.f
 repeat' first
   | (with_reducible exact ih0 _ _ _ _ _ _)
   | (with_reducible exact ih1 _ _ _ _ _ _ _)
   | (with_reducible exact ih2 _ _ _)
   | (with_reducible exact clapperlaw11_up.mono _)
   | (with_reducible exact clapperref11_Bytes.mono _ _)
   | (with_reducible exact clapperref11_Is.mono _ _ _ _)
   | (with_reducible exact clapperref11_May.mono _ _)
   | (with_reducible exact clapperref11_Parse.mono _ _)
   | (with_reducible exact clapperref11_Same.mono _ _ _)
   | (with_reducible exact revoke_Bytes.mono _ _)
   | (with_reducible exact revoke_Is.mono _ _ _ _)
   | (with_reducible exact revoke_May.mono _ _)
   | (with_reducible exact revoke_Parse.mono _ _)
   | (with_reducible exact LeO.refl _)
   | (with_reducible exact LeO.none _)
   | (with_reducible refine LeO.ite ?_ ?_)
   | (with_reducible refine LeO.bind ?_ (fun _ => ?_))
   | exact ih0 _ _ _ _ _ _
   | exact ih1 _ _ _ _ _ _ _
   | exact ih2 _ _ _
   | exact clapperlaw11_up.mono _
   | exact clapperref11_Bytes.mono _ _
   | exact clapperref11_Is.mono _ _ _ _
   | exact clapperref11_May.mono _ _
   | exact clapperref11_Parse.mono _ _
   | exact clapperref11_Same.mono _ _ _
   | exact revoke_Bytes.mono _ _
   | exact revoke_Is.mono _ _ _ _
   | exact revoke_May.mono _ _
   | exact revoke_Parse.mono _ _
   | exact LeO.none _
   | refine LeO.ite ?_ ?_
   | refine LeO.bind ?_ (fun _ => ?_)
def clapperlaw11_RevokeTells.T7 : Bool × List (List Nat × List Nat) := (true, [([], []), ([0], [0]), ([], []), ([1, 2], [1, 2]), ([3, 1], [3]), ([4], [4]), ([4], [4]), ([4], [4]), ([5, 6, 7, 4, 4], [4, 5, 6, 7]), ([4], [4]), ([8, 9, 4], [4, 8, 9]), ([4, 10], [4, 10]), ([11, 8], [11]), ([12], [12]), ([13, 12, 12], [12, 13]), ([14], [14]), ([15, 14], [14, 15]), ([16, 14, 14], [14, 16]), ([17], [17]), ([18, 17], [17, 18]), ([17], [17]), ([20, 17, 17], [17, 20]), ([19, 21, 17], [17, 19, 21]), ([17, 22, 14], [14, 17, 22]), ([14, 23, 12], [12, 14, 23]), ([12, 24], [12, 24]), ([25, 21], [25]), ([26], [26]), ([27, 26], [26, 27]), ([28, 26, 26], [26, 28]), ([29], [29]), ([29], [29]), ([30, 31, 29], [29, 30, 31]), ([32, 29, 29], [29, 32]), ([33], [33]), ([34, 33], [33, 34]), ([35, 33], [33, 35]), ([33, 36, 29], [29, 33, 36]), ([29, 37, 26], [26, 29, 37]), ([26, 38], [26, 38])])
def clapperlaw11_RevokeTells.B7 : List Nat := [0, 1, 0, 7, 15, 31, 31, 31, 255, 31, 1023, 2047, 4095, 8191, 16383, 32767, 65535, 131071, 262143, 524287, 262143, 1310719, 4194303, 8388607, 16777215, 33554431, 67108863, 134217727, 268435455, 536870911, 1073741823, 1073741823, 4294967295, 8589934591, 17179869183, 34359738367, 68719476735, 137438953471, 274877906943, 549755813887]
theorem clapperlaw11_RevokeTells.tab7 : rtab .any (opsOf Try.f4 7) = clapperlaw11_RevokeTells.T7 := by kernel_rfl
theorem clapperlaw11_RevokeTells.bits7 : waitsOk clapperlaw11_RevokeTells.T7.2 clapperlaw11_RevokeTells.B7 = true := by kernel_rfl
set_option maxHeartbeats 8000000 in
set_option maxRecDepth 100000 in
theorem clapperlaw11_RevokeTells.calls (k : Nat) (A0 : Option Addr) (c0 : Nat) (l0 : List (S43)) (a1 : Int) (a2 : Int) (A3 : Option Addr) (c3 : Nat) (l3 : List Int) (r : Bool) (w : World) (hr0 : Kd.C k43 w A0 l0.length l0) (hc0 : l0.length ≤ c0) (hr3 : Kd.C (Kd.int .u8) w A3 l3.length l3) (hc3 : l3.length ≤ c3) (hr_ : r = true) (h : clapperlaw11_RevokeTells.f k l0 a1 a2 l3 = some r) :
  Calls Try.prog 4 #[.slice A0 l0.length c0, .int .i64 a1, .int .i64 a2, .slice A3 l3.length c3] w fun e w' => e = .returned (.bool r) ∧ Below w.heap.size w w' := by
 have hu25 := Try.underlying25
 have hu29 := Try.underlying29
 have HR0 := Aside0.mk hr0
 have HC0 := Aside0.mk hc0
 clear hr0 hc0
 have HR3 := Aside0.mk hr3
 have HC3 := Aside0.mk hc3
 clear hr3 hc3
 have HB := Aside0.mk (Below.refl w.heap.size w)
 have HT_ := Aside0.mk hr_
 clear hr_
 have H : ((clapperlaw11_up.f k).bind fun t230 => (if (l0.length : Int) > 300 then (clapperlaw11_RevokeTells.j0 k l0 a1 a2 l3 t230 true) else (clapperlaw11_RevokeTells.j0 k l0 a1 a2 l3 t230 (decide ((l3.length : Int) > 8000))))) = some r := h
 clear h
 replace H := Option.bind_eq_some_iff.mp H
 obtain ⟨t230, A50, H⟩ := H
 replace H : (if (l0.length : Int) > 300 then (clapperlaw11_RevokeTells.j0 k l0 a1 a2 l3 t230 true) else (clapperlaw11_RevokeTells.j0 k l0 a1 a2 l3 t230 (decide ((l3.length : Int) > 8000)))) = some r := H
 have A5 := Aside0.mk A50
 clear A50
 have HC6 := Aside0.mk H
 clear H
 go_enter Try.func4, Try.ntmps4
 go_upto_region 2 with (first | ((with_reducible refine gate_callee (f := 6) rfl ?_); refine goesL_ (some 18) rfl rfl Try.func6 (by kernel_rfl) rfl #[] rfl (by (try simp only [List.map_toArray, List.map_cons, List.map_nil]); first | done | rfl | (simp only [List.length_drop, List.length_take]; rfl)) ?_; (with_reducible refine (clapperlaw11_up.calls k  t230 _ A5.out).mono ?_); rintro e w7 ⟨rfl, hb⟩; refine ⟨_, rfl, ?_⟩; have n0_ := Aside0.mk (below_step (by repeat (first | (with_reducible first | exact HB.out | apply below_alloc | apply pw_below_drewN | apply below_drew1) | exact HB.out)) hb); clear HB; have HB := n0_; clear n0_; (try clear hb); (try clear hb2); (try clear hk); (try clear hi)))
 (try simp only [aS])
 go_cut [26] (fun v26 wc => ∃ (kq : Nat) (x26_5 : Bool), v26 = .bool x26_5 ∧ Aside0 (clapperlaw11_RevokeTells.j0 kq l0 a1 a2 l3 t230 x26_5 = some r) ∧ Aside0 (kq ≤ k) ∧ Aside0 (Below w.heap.size w wc))
 case first =>
  have H := HC6.out
  clear HC6
  by_cases c8 : (l0.length : Int) > 300
  ·rw [if_pos c8] at H
   have c8b0 : decide (300 < (l0.length : Int)) = true := decide_eq_true c8
   have c8b1 : decide (300 < l0.length) = true := decide_eq_true (by omega)
   clear c8
   (first | rw [c8b0] | (simp only [i64_w, i32_w]; rw [c8b0]) | skip)
   have H' := Aside0.mk H
   clear H
   go_wp2
   go_meet
   case rel => exact ⟨_, (true), (by first | rfl | (simp; done) | (simp [*]; done)), H', ⟨by first | omega | exact Nat.le_refl _⟩, ⟨by repeat (first | (with_reducible first | exact HB.out | apply below_alloc | apply pw_below_drewN | apply below_drew1) | exact HB.out)⟩⟩
  ·rw [if_neg c8] at H
   have c8b0 : decide (300 < (l0.length : Int)) = false := decide_eq_false c8
   have c8b1 : decide (300 < l0.length) = false := decide_eq_false (by omega)
   clear c8
   (first | rw [c8b0] | (simp only [i64_w, i32_w]; rw [c8b0]) | skip)
   have H' := Aside0.mk H
   clear H
   go_wp2
   go_meet
   case rel => exact ⟨_, (decide ((l3.length : Int) > 8000)), (by first | rfl | (simp; done) | (simp [*]; done)), H', ⟨by first | omega | exact Nat.le_refl _⟩, ⟨by repeat (first | (with_reducible first | exact HB.out | apply below_alloc | apply pw_below_drewN | apply below_drew1) | exact HB.out)⟩⟩
 case rest =>
  clear HC6
  try clear p2
  try clear c3
  try clear c4
  try clear c6
  try clear c8
  try clear c8b0
  try clear c8b1
  obtain ⟨kq, x26_5, rfl, HA, HJ5, HB⟩ := hcut
  cases kq with
  | zero => exact absurd HA.out (by simp [clapperlaw11_RevokeTells.j0])
  | succ kj5 =>
   have H := HA.out
   clear HA
   simp only [clapperlaw11_RevokeTells.j0] at H
   by_cases c9 : x26_5 = true
   ·subst c9
    have H1 : (some t230) = some r := by rw [if_pos rfl] at H; exact H
    clear H
    have H := H1
    clear H1
    obtain rfl := Option.some.inj H
    go_wp2
    go_ret
    exact ⟨by first | rfl | (simp [errW_none, errW_some] <;> rfl) | (simp [*, errW_none, errW_some] <;> rfl), by repeat (first | (with_reducible first | exact HB.out | apply below_alloc | apply pw_below_drewN | apply below_drew1) | exact HB.out)⟩
   ·replace c9 := Bool.eq_false_iff.mpr c9
    subst c9
    have H1 : ((clapperref11_May.f kj5 l0).bind fun t231 => (if t231 = true then ((clapperref11_Is.f kj5 l0 a1 a2).bind fun t232 => (clapperlaw11_RevokeTells.j1 kj5 l0 a1 a2 l3 t230 t231 t232)) else (clapperlaw11_RevokeTells.j1 kj5 l0 a1 a2 l3 t230 t231 false))) = some r := by rw [if_neg (show ¬ (false = true) by decide)] at H; exact H
    clear H
    have H := H1
    clear H1
    replace H := Option.bind_eq_some_iff.mp H
    obtain ⟨t231, A100, H⟩ := H
    replace H : (if t231 = true then ((clapperref11_Is.f kj5 l0 a1 a2).bind fun t232 => (clapperlaw11_RevokeTells.j1 kj5 l0 a1 a2 l3 t230 t231 t232)) else (clapperlaw11_RevokeTells.j1 kj5 l0 a1 a2 l3 t230 t231 false)) = some r := H
    have A10 := Aside0.mk A100
    clear A100
    have HC11 := Aside0.mk H
    clear H
    go_upto_region 5 with (first | ((with_reducible refine gate_callee (f := 8) rfl ?_); refine goesL_ (some 29) rfl rfl Try.func8 (by kernel_rfl) rfl #[.slice A0 l0.length c0] rfl (by (try simp only [List.map_toArray, List.map_cons, List.map_nil]); first | done | rfl | (simp only [List.length_drop, List.length_take]; rfl)) ?_; (with_reducible refine (clapperref11_May.calls kj5 _ _ l0 t231 _ ?side1 ?side2 A10.out).mono ?_); (case side1 => repeat (first | exact (Kd.C_below HR0.out HB.out) | (with_reducible refine Kd.C_alloc ?_ _) | (with_reducible refine Kd.C_drewN ?_ _) | (with_reducible refine Kd.C_drew ?_))); (case side2 => exact HC0.out); rintro e w' ⟨rfl, ⟨nd, rfl⟩⟩; refine ⟨_, rfl, ?_⟩; (try (rw [drewN_self wc]; generalize hq_ : World.drewN wc _ = wc; have n0_ : Aside0 (Below w.heap.size w wc) := ⟨by rw [← hq_]; exact (by repeat (first | (with_reducible first | exact HB.out | apply below_alloc | apply pw_below_drewN | apply below_drew1) | exact HB.out))⟩; clear HB hq_; have HB := n0_; clear n0_))))
    (try simp only [aS])
    go_cut [11] (fun v11 wc => ∃ (kq : Nat) (x11_10 : Bool), v11 = .bool x11_10 ∧ Aside0 (clapperlaw11_RevokeTells.j1 kq l0 a1 a2 l3 t230 t231 x11_10 = some r) ∧ Aside0 (kq ≤ kj5) ∧ Aside0 (Below w.heap.size w wc))
    case first =>
     have H := HC11.out
     clear HC11
     by_cases c12 : t231 = true
     ·subst c12
      have H1 : ((clapperref11_Is.f kj5 l0 a1 a2).bind fun t232 => (clapperlaw11_RevokeTells.j1 kj5 l0 a1 a2 l3 t230 true t232)) = some r := by rw [if_pos rfl] at H; exact H
      clear H
      have H := H1
      clear H1
      replace H := Option.bind_eq_some_iff.mp H
      obtain ⟨t232, A130, H⟩ := H
      replace H : (clapperlaw11_RevokeTells.j1 kj5 l0 a1 a2 l3 t230 true t232) = some r := H
      have A13 := Aside0.mk A130
      clear A130
      have H' := Aside0.mk H
      clear H
      go_wp2_with (first | (go_at_call 11; (with_reducible refine (clapperref11_Is.calls kj5 _ _ l0 a1 a2 t232 _ ?side1 ?side2 A13.out).mono ?_); (case side1 => repeat (first | exact (Kd.C_below HR0.out HB.out) | (with_reducible refine Kd.C_alloc ?_ _) | (with_reducible refine Kd.C_drewN ?_ _) | (with_reducible refine Kd.C_drew ?_))); (case side2 => exact HC0.out); rintro e w' ⟨rfl, ⟨nd, rfl⟩⟩; (try (rw [drewN_self wc]; generalize hq_ : World.drewN wc _ = wc; have n0_ : Aside0 (Below w.heap.size w wc) := ⟨by rw [← hq_]; exact (by repeat (first | (with_reducible first | exact HB.out | apply below_alloc | apply pw_below_drewN | apply below_drew1) | exact HB.out))⟩; clear HB hq_; have HB := n0_; clear n0_))))
      go_meet
      case rel => exact ⟨_, (t232), (by first | rfl | (simp; done) | (simp [*]; done)), H', ⟨by have := HJ5.out; first | omega | exact Nat.le_refl _⟩, ⟨by repeat (first | (with_reducible first | exact HB.out | apply below_alloc | apply pw_below_drewN | apply below_drew1) | exact HB.out)⟩⟩
     ·replace c12 := Bool.eq_false_iff.mpr c12
      subst c12
      have H1 : (clapperlaw11_RevokeTells.j1 kj5 l0 a1 a2 l3 t230 false false) = some r := by rw [if_neg (show ¬ (false = true) by decide)] at H; exact H
      clear H
      have H := H1
      clear H1
      have H' := Aside0.mk H
      clear H
      go_wp2
      go_meet
      case rel => exact ⟨_, (false), (by first | rfl | (simp; done) | (simp [*]; done)), H', ⟨by have := HJ5.out; first | omega | exact Nat.le_refl _⟩, ⟨by repeat (first | (with_reducible first | exact HB.out | apply below_alloc | apply pw_below_drewN | apply below_drew1) | exact HB.out)⟩⟩
    case rest =>
     clear HC11
     try clear c1
     try clear p2
     try clear c3
     try clear c4
     try clear c6
     try clear c8
     try clear c8b0
     try clear c8b1
     try clear c9
     try clear c12
     try clear p2
     obtain ⟨kq, x11_10, rfl, HA, HJ10, HB⟩ := hcut
     cases kq with
     | zero => exact absurd HA.out (by simp [clapperlaw11_RevokeTells.j1])
     | succ kj10 =>
      have H := HA.out
      clear HA
      simp only [clapperlaw11_RevokeTells.j1] at H
      replace H := Option.bind_eq_some_iff.mp H
      obtain ⟨⟨t233, t234⟩, A140, H⟩ := H
      replace H : ((revoke_May.f kj10 l0).bind fun t237 => (if (t237 != t231) = true then (clapperlaw11_RevokeTells.j2 kj10 l3 t230 true) else ((revoke_Is.f kj10 l0 a1 a2).bind fun t238 => (if (t238 != x11_10) = true then (clapperlaw11_RevokeTells.j2 kj10 l3 t230 true) else (if t231 = true then (if t234.isNone = true then ((clapperref11_Bytes.f kj10 l0).bind fun t240 => (if (strOfNums t233).toList = t240.toList then (clapperlaw11_RevokeTells.j2 kj10 l3 t230 false) else (clapperlaw11_RevokeTells.j2 kj10 l3 t230 true))) else (clapperlaw11_RevokeTells.j2 kj10 l3 t230 true)) else (if t234.isNone = true then (clapperlaw11_RevokeTells.j2 kj10 l3 t230 true) else (if (t234.getD 0) = 1 then (clapperlaw11_RevokeTells.j2 kj10 l3 t230 ((t233.length : Int) != 0)) else (clapperlaw11_RevokeTells.j2 kj10 l3 t230 true)))))))) = some r := H
      have A14 := Aside0.mk A140
      clear A140
      have HC15 := Aside0.mk H
      clear H
      go_upto_region 7 with (first | ((with_reducible refine gate_callee (f := 12) rfl ?_); refine goesL_ (some 39) rfl rfl Try.func12 (by kernel_rfl) rfl #[.slice A0 l0.length c0] rfl (by (try simp only [List.map_toArray, List.map_cons, List.map_nil]); first | done | rfl | (simp only [List.length_drop, List.length_take]; rfl)) ?_; (with_reducible refine (revoke_Bytes.calls kj10 _ _ l0 t233 t234 _ ?side1 ?side2 A14.out).mono ?_); (case side1 => repeat (first | exact (Kd.C_below HR0.out HB.out) | (with_reducible refine Kd.C_alloc ?_ _) | (with_reducible refine Kd.C_drewN ?_ _) | (with_reducible refine Kd.C_drew ?_))); (case side2 => exact HC0.out); rintro e w16 ⟨v235, rfl, ho0, hb⟩; refine ⟨_, rfl, ?_⟩; have n0_ := Aside0.mk (Kd.R_lower ho0 (below_size (by repeat (first | (with_reducible first | exact HB.out | apply below_alloc | apply pw_below_drewN | apply below_drew1) | exact HB.out)))); have n1_ := Aside0.mk (below_step (by repeat (first | (with_reducible first | exact HB.out | apply below_alloc | apply pw_below_drewN | apply below_drew1) | exact HB.out)) hb); clear HB; have HO236 := n0_; have HB := n1_; clear n0_ n1_; (try clear hb); (try clear hb2); (try clear hk); (try clear hi); (try clear ho0); (try simp only [errW_none, errW_some])))
      (try simp only [aS])
      go_cut [81] (fun v81 wc => ∃ (kq : Nat) (x81_14 : Bool), v81 = .bool x81_14 ∧ Aside0 (clapperlaw11_RevokeTells.j2 kq l3 t230 x81_14 = some r) ∧ Aside0 (kq ≤ kj10) ∧ Aside0 (Below w.heap.size w wc))
      case first =>
       have H := HC15.out
       clear HC15
       replace H := Option.bind_eq_some_iff.mp H
       obtain ⟨t237, A170, H⟩ := H
       replace H : (if (t237 != t231) = true then (clapperlaw11_RevokeTells.j2 kj10 l3 t230 true) else ((revoke_Is.f kj10 l0 a1 a2).bind fun t238 => (if (t238 != x11_10) = true then (clapperlaw11_RevokeTells.j2 kj10 l3 t230 true) else (if t231 = true then (if t234.isNone = true then ((clapperref11_Bytes.f kj10 l0).bind fun t240 => (if (strOfNums t233).toList = t240.toList then (clapperlaw11_RevokeTells.j2 kj10 l3 t230 false) else (clapperlaw11_RevokeTells.j2 kj10 l3 t230 true))) else (clapperlaw11_RevokeTells.j2 kj10 l3 t230 true)) else (if t234.isNone = true then (clapperlaw11_RevokeTells.j2 kj10 l3 t230 true) else (if (t234.getD 0) = 1 then (clapperlaw11_RevokeTells.j2 kj10 l3 t230 ((t233.length : Int) != 0)) else (clapperlaw11_RevokeTells.j2 kj10 l3 t230 true))))))) = some r := H
       have A17 := Aside0.mk A170
       clear A170
       by_cases c18 : (t237 != t231) = true
       ·rw [if_pos c18] at H
        have c18b0 : (t237 != t231) = true := c18
        (try (have c18b1 : decide (t237 = t231) = false := by simpa using c18))
        (try (have c18b2 : (t237 == t231) = false := by simpa using c18))
        (try (have c18b3 : ¬ (t237 = t231) := by simpa using c18))
        clear c18
        (first | rw [c18b0] | (simp only [i64_w, i32_w]; rw [c18b0]) | skip)
        have H' := Aside0.mk H
        clear H
        try go_wp2
        have n0_ := Aside0.mk (Kd.R_drew HO236.out)
        have n1_ := Aside0.mk (below_drew1 HB.out)
        clear HO236
        clear HB
        have HO236 := n0_
        have HB := n1_
        clear n0_ n1_
        refine start_ (n := 40) (S := fun w' => True) (ds := []) (bs 40 0) (by kernel_rfl) rfl rfl trivial (fun hHeld => ?_); refine with_tabW clapperlaw11_RevokeTells.tab7 clapperlaw11_RevokeTells.bits7 (fun HT_ HW_ => ?_)
        generalize w16.drew = w19 at HO236 HB hHeld ⊢
        refine pure_ (i := 0) (N := some 42) (v := ?_) (a' := ?_) (bs 40 1) rfl rfl (any_of HT_.out (by kernel_rfl)) (fun _ _ _ h => h) (Or.inl ⟨by rfl, ?_⟩) ?_ ?_
        rotate_left
        ·intro w'
         go_simp
         with_reducible rfl
        rotate_left
        ·simp only [aS, i64_w, i32_w]
         rfl
        refine pure_ (i := 2) (N := some 44) (v := ?_) (a' := ?_) (bs 40 5) rfl rfl (any_of HT_.out (by kernel_rfl)) (fun _ _ _ h => h) (Or.inl ⟨by rfl, ?_⟩) ?_ ?_
        rotate_left
        ·intro w'
         go_simp
         with_reducible rfl
        rotate_left
        ·simp only [aS, i64_w, i32_w]
         rfl
        refine one_ (i := 1) (N := some 43) (bs 40 7) rfl rfl (one_of HT_.out (by kernel_rfl)) (by decide) (fun K hK => ?_)
        refine goes_ Try.func13 (by kernel_rfl) rfl #[.slice A0 l0.length c0] (by rfl) rfl rfl (by (try simp only [List.map_toArray, List.map_cons, List.map_nil]); first | done | rfl | (simp only [List.length_drop, List.length_take]; rfl)) ?_
        with_reducible refine (revoke_May.calls kj10 _ _ l0 t237 _ ?side1 ?side2 A17.out).mono ?_
        (case side1 => repeat (first | exact (Kd.C_below HR0.out HB.out) | (with_reducible refine Kd.C_alloc ?_ _) | (with_reducible refine Kd.C_drewN ?_ _) | (with_reducible refine Kd.C_drew ?_)))
        (case side2 => exact HC0.out)
        rintro e w20 ⟨rfl, hb⟩
        refine ⟨_, rfl, ?_⟩
        have n0_ := Aside0.mk (Kd.R_below (by (with_reducible repeat (first | apply Kd.R_alloc | apply Kd.R_drewN | apply Kd.R_drew)); exact HO236.out) hb)
        have n1_ := Aside0.mk (below_step (by repeat (first | (with_reducible first | exact HB.out | apply below_alloc | apply pw_below_drewN | apply below_drew1) | exact HB.out)) hb)
        clear HO236
        clear HB
        have HO236 := n0_
        have HB := n1_
        clear n0_ n1_
        (try clear hb)
        (try clear hb2)
        (try clear hk)
        (try clear hi)
        refine hK.out _ _ trivial (fun hHeld => ?_)
        clear hK K
        refine nm_ (some 43) ?_
        refine pure_ (i := 3) (N := some 45) (v := ?_) (a' := ?_) (bs 40 15) rfl rfl (any_of HT_.out (by kernel_rfl)) (fun _ _ _ h => h) (Or.inl ⟨by rfl, ?_⟩) ?_ ?_
        rotate_left
        ·intro w'
         go_simp
         with_reducible rfl
        rotate_left
        ·simp only [aS, i64_w, i32_w]
         rfl
        refine pure_ (i := 4) (N := some 46) (v := ?_) (a' := ?_) (bs 40 31) rfl rfl (any_of HT_.out (by kernel_rfl)) (fun _ _ _ h => h) (Or.inl ⟨by rfl, ?_⟩) ?_ ?_
        rotate_left
        ·intro w'
         go_simp
         with_reducible rfl
        rotate_left
        ·simp only [aS, i64_w, i32_w]
         rfl
        refine pure_ (i := 5) (N := some 47) (v := undef) (a' := ?_) (bs 40 63) rfl rfl (any_of HT_.out (by kernel_rfl)) (fun _ _ _ h => h) (Or.inr ⟨by rfl, rfl⟩) ?_ ?_
        rotate_left
        ·simp only [aS, i64_w, i32_w]
         rfl
        refine pure_ (i := 6) (N := some 48) (v := undef) (a' := ?_) (bs 40 127) rfl rfl (any_of HT_.out (by kernel_rfl)) (fun _ _ _ h => h) (Or.inr ⟨by rfl, rfl⟩) ?_ ?_
        rotate_left
        ·simp only [aS, i64_w, i32_w]
         rfl
        refine pure_ (i := 7) (N := some 49) (v := undef) (a' := ?_) (bs 40 255) rfl rfl (any_of HT_.out (by kernel_rfl)) (fun _ _ _ h => h) (Or.inr ⟨by rfl, rfl⟩) ?_ ?_
        rotate_left
        ·simp only [aS, i64_w, i32_w]
         rfl
        refine pure_ (i := 8) (N := some 50) (v := undef) (a' := ?_) (bs 40 511) rfl rfl (any_of HT_.out (by kernel_rfl)) (fun _ _ _ h => h) (Or.inr ⟨by rfl, rfl⟩) ?_ ?_
        rotate_left
        ·simp only [aS, i64_w, i32_w]
         rfl
        refine pure_ (i := 9) (N := some 51) (v := undef) (a' := ?_) (bs 40 1023) rfl rfl (any_of HT_.out (by kernel_rfl)) (fun _ _ _ h => h) (Or.inr ⟨by rfl, rfl⟩) ?_ ?_
        rotate_left
        ·simp only [aS, i64_w, i32_w]
         rfl
        refine pure_ (i := 10) (N := some 52) (v := undef) (a' := ?_) (bs 40 2047) rfl rfl (any_of HT_.out (by kernel_rfl)) (fun _ _ _ h => h) (Or.inr ⟨by rfl, rfl⟩) ?_ ?_
        rotate_left
        ·simp only [aS, i64_w, i32_w]
         rfl
        refine pure_ (i := 11) (N := some 53) (v := ?_) (a' := ?_) (bs 40 4095) rfl rfl (any_of HT_.out (by kernel_rfl)) (fun _ _ _ h => h) (Or.inl ⟨by rfl, ?_⟩) ?_ ?_
        rotate_left
        ·intro w'
         go_simp
         with_reducible rfl
        rotate_left
        ·simp only [aS, i64_w, i32_w]
         rfl
        refine pure_ (i := 12) (N := some 54) (v := ?_) (a' := ?_) (bs 40 8191) rfl rfl (any_of HT_.out (by kernel_rfl)) (fun _ _ _ h => h) (Or.inl ⟨by rfl, ?_⟩) ?_ ?_
        rotate_left
        ·intro w'
         go_simp
         with_reducible rfl
        rotate_left
        ·simp only [aS, i64_w, i32_w]
         rfl
        refine pure_ (i := 13) (N := some 55) (v := undef) (a' := ?_) (bs 40 16383) rfl rfl (any_of HT_.out (by kernel_rfl)) (fun _ _ _ h => h) (Or.inr ⟨by rfl, rfl⟩) ?_ ?_
        rotate_left
        ·simp only [aS, i64_w, i32_w]
         rfl
        refine pure_ (i := 14) (N := some 56) (v := undef) (a' := ?_) (bs 40 32767) rfl rfl (any_of HT_.out (by kernel_rfl)) (fun _ _ _ h => h) (Or.inr ⟨by rfl, rfl⟩) ?_ ?_
        rotate_left
        ·simp only [aS, i64_w, i32_w]
         rfl
        refine pure_ (i := 15) (N := some 57) (v := undef) (a' := ?_) (bs 40 65535) rfl rfl (any_of HT_.out (by kernel_rfl)) (fun _ _ _ h => h) (Or.inr ⟨by rfl, rfl⟩) ?_ ?_
        rotate_left
        ·simp only [aS, i64_w, i32_w]
         rfl
        refine pure_ (i := 16) (N := some 58) (v := undef) (a' := ?_) (bs 40 131071) rfl rfl (any_of HT_.out (by kernel_rfl)) (fun _ _ _ h => h) (Or.inr ⟨by rfl, rfl⟩) ?_ ?_
        rotate_left
        ·simp only [aS, i64_w, i32_w]
         rfl
        refine pure_ (i := 17) (N := some 59) (v := undef) (a' := ?_) (bs 40 262143) rfl rfl (any_of HT_.out (by kernel_rfl)) (fun _ _ _ h => h) (Or.inr ⟨by rfl, rfl⟩) ?_ ?_
        rotate_left
        ·simp only [aS, i64_w, i32_w]
         rfl
        refine pure_ (i := 18) (N := some 60) (v := undef) (a' := ?_) (bs 40 524287) rfl rfl (any_of HT_.out (by kernel_rfl)) (fun _ _ _ h => h) (Or.inr ⟨by rfl, rfl⟩) ?_ ?_
        rotate_left
        ·simp only [aS, i64_w, i32_w]
         rfl
        refine pure_ (i := 19) (N := some 61) (v := undef) (a' := ?_) (bs 40 1048575) rfl rfl (any_of HT_.out (by kernel_rfl)) (fun _ _ _ h => h) (Or.inr ⟨by rfl, rfl⟩) ?_ ?_
        rotate_left
        ·simp only [aS, i64_w, i32_w]
         rfl
        refine pure_ (i := 20) (N := some 62) (v := undef) (a' := ?_) (bs 40 2097151) rfl rfl (any_of HT_.out (by kernel_rfl)) (fun _ _ _ h => h) (Or.inr ⟨by rfl, rfl⟩) ?_ ?_
        rotate_left
        ·simp only [aS, i64_w, i32_w]
         rfl
        refine pure_ (i := 21) (N := some 63) (v := undef) (a' := ?_) (bs 40 4194303) rfl rfl (any_of HT_.out (by kernel_rfl)) (fun _ _ _ h => h) (Or.inr ⟨by rfl, rfl⟩) ?_ ?_
        rotate_left
        ·simp only [aS, i64_w, i32_w]
         rfl
        refine pure_ (i := 22) (N := some 64) (v := undef) (a' := ?_) (bs 40 8388607) rfl rfl (any_of HT_.out (by kernel_rfl)) (fun _ _ _ h => h) (Or.inr ⟨by rfl, rfl⟩) ?_ ?_
        rotate_left
        ·simp only [aS, i64_w, i32_w]
         rfl
        refine pure_ (i := 23) (N := some 65) (v := undef) (a' := ?_) (bs 40 16777215) rfl rfl (any_of HT_.out (by kernel_rfl)) (fun _ _ _ h => h) (Or.inr ⟨by rfl, rfl⟩) ?_ ?_
        rotate_left
        ·simp only [aS, i64_w, i32_w]
         rfl
        refine pure_ (i := 24) (N := some 66) (v := undef) (a' := ?_) (bs 40 33554431) rfl rfl (any_of HT_.out (by kernel_rfl)) (fun _ _ _ h => h) (Or.inr ⟨by rfl, rfl⟩) ?_ ?_
        rotate_left
        ·simp only [aS, i64_w, i32_w]
         rfl
        refine pure_ (i := 25) (N := some 67) (v := ?_) (a' := ?_) (bs 40 67108863) rfl rfl (any_of HT_.out (by kernel_rfl)) (fun _ _ _ h => h) (Or.inl ⟨by rfl, ?_⟩) ?_ ?_
        rotate_left
        ·intro w'
         go_simp
         with_reducible rfl
        rotate_left
        ·simp only [aS, i64_w, i32_w]
         rfl
        refine pure_ (i := 26) (N := some 68) (v := ?_) (a' := ?_) (bs 40 134217727) rfl rfl (any_of HT_.out (by kernel_rfl)) (fun _ _ _ h => h) (Or.inl ⟨by rfl, ?_⟩) ?_ ?_
        rotate_left
        ·intro w'
         go_simp
         with_reducible rfl
        rotate_left
        ·simp only [aS, i64_w, i32_w]
         rfl
        refine pure_ (i := 27) (N := some 69) (v := undef) (a' := ?_) (bs 40 268435455) rfl rfl (any_of HT_.out (by kernel_rfl)) (fun _ _ _ h => h) (Or.inr ⟨by rfl, rfl⟩) ?_ ?_
        rotate_left
        ·simp only [aS, i64_w, i32_w]
         rfl
        refine pure_ (i := 28) (N := some 70) (v := undef) (a' := ?_) (bs 40 536870911) rfl rfl (any_of HT_.out (by kernel_rfl)) (fun _ _ _ h => h) (Or.inr ⟨by rfl, rfl⟩) ?_ ?_
        rotate_left
        ·simp only [aS, i64_w, i32_w]
         rfl
        refine pure_ (i := 29) (N := some 71) (v := undef) (a' := ?_) (bs 40 1073741823) rfl rfl (any_of HT_.out (by kernel_rfl)) (fun _ _ _ h => h) (Or.inr ⟨by rfl, rfl⟩) ?_ ?_
        rotate_left
        ·simp only [aS, i64_w, i32_w]
         rfl
        refine pure_ (i := 30) (N := some 72) (v := undef) (a' := ?_) (bs 40 2147483647) rfl rfl (any_of HT_.out (by kernel_rfl)) (fun _ _ _ h => h) (Or.inr ⟨by rfl, rfl⟩) ?_ ?_
        rotate_left
        ·simp only [aS, i64_w, i32_w]
         rfl
        refine pure_ (i := 31) (N := some 73) (v := undef) (a' := ?_) (bs 40 4294967295) rfl rfl (any_of HT_.out (by kernel_rfl)) (fun _ _ _ h => h) (Or.inr ⟨by rfl, rfl⟩) ?_ ?_
        rotate_left
        ·simp only [aS, i64_w, i32_w]
         rfl
        refine pure_ (i := 32) (N := some 74) (v := undef) (a' := ?_) (bs 40 8589934591) rfl rfl (any_of HT_.out (by kernel_rfl)) (fun _ _ _ h => h) (Or.inr ⟨by rfl, rfl⟩) ?_ ?_
        rotate_left
        ·simp only [aS, i64_w, i32_w]
         rfl
        refine pure_ (i := 33) (N := some 75) (v := undef) (a' := ?_) (bs 40 17179869183) rfl rfl (any_of HT_.out (by kernel_rfl)) (fun _ _ _ h => h) (Or.inr ⟨by rfl, rfl⟩) ?_ ?_
        rotate_left
        ·simp only [aS, i64_w, i32_w]
         rfl
        refine pure_ (i := 34) (N := some 76) (v := undef) (a' := ?_) (bs 40 34359738367) rfl rfl (any_of HT_.out (by kernel_rfl)) (fun _ _ _ h => h) (Or.inr ⟨by rfl, rfl⟩) ?_ ?_
        rotate_left
        ·simp only [aS, i64_w, i32_w]
         rfl
        refine pure_ (i := 35) (N := some 77) (v := undef) (a' := ?_) (bs 40 68719476735) rfl rfl (any_of HT_.out (by kernel_rfl)) (fun _ _ _ h => h) (Or.inr ⟨by rfl, rfl⟩) ?_ ?_
        rotate_left
        ·simp only [aS, i64_w, i32_w]
         rfl
        refine pure_ (i := 36) (N := some 78) (v := undef) (a' := ?_) (bs 40 137438953471) rfl rfl (any_of HT_.out (by kernel_rfl)) (fun _ _ _ h => h) (Or.inr ⟨by rfl, rfl⟩) ?_ ?_
        rotate_left
        ·simp only [aS, i64_w, i32_w]
         rfl
        refine pure_ (i := 37) (N := some 79) (v := undef) (a' := ?_) (bs 40 274877906943) rfl rfl (any_of HT_.out (by kernel_rfl)) (fun _ _ _ h => h) (Or.inr ⟨by rfl, rfl⟩) ?_ ?_
        rotate_left
        ·simp only [aS, i64_w, i32_w]
         rfl
        refine pure_ (i := 38) (N := some 80) (v := undef) (a' := ?_) (bs 40 549755813887) rfl rfl (any_of HT_.out (by kernel_rfl)) (fun _ _ _ h => h) (Or.inr ⟨by rfl, rfl⟩) ?_ ?_
        rotate_left
        ·simp only [aS, i64_w, i32_w]
         rfl
        refine pure_ (i := 39) (N := some 81) (v := ?_) (a' := ?_) (bs 40 1099511627775) rfl rfl (any_of HT_.out (by kernel_rfl)) (fun _ _ _ h => h) (Or.inl ⟨by rfl, ?_⟩) ?_ ?_
        rotate_left
        ·intro w'
         go_simp
         with_reducible rfl
        rotate_left
        ·simp only [aS, i64_w, i32_w]
         rfl
        refine done_ (done_of HT_.out (by kernel_rfl)) ?_
        try go_wp2
        go_meet
        case rel => exact ⟨_, (true), (by first | rfl | (simp; done) | (simp [*]; done)), H', ⟨by have := HJ5.out; have := HJ10.out; first | omega | exact Nat.le_refl _⟩, ⟨by repeat (first | (with_reducible first | exact HB.out | apply below_alloc | apply pw_below_drewN | apply below_drew1) | exact HB.out)⟩⟩
       ·rw [if_neg c18] at H
        have c18b0 : (t237 != t231) = false := by simpa using c18
        (try (have c18b1 : decide (t237 = t231) = true := by simpa using c18))
        (try (have c18b2 : (t237 == t231) = true := by simpa using c18))
        clear c18
        (first | rw [c18b0] | (simp only [i64_w, i32_w]; rw [c18b0]) | skip)
        replace H := Option.bind_eq_some_iff.mp H
        obtain ⟨t238, A210, H⟩ := H
        replace H : (if (t238 != x11_10) = true then (clapperlaw11_RevokeTells.j2 kj10 l3 t230 true) else (if t231 = true then (if t234.isNone = true then ((clapperref11_Bytes.f kj10 l0).bind fun t240 => (if (strOfNums t233).toList = t240.toList then (clapperlaw11_RevokeTells.j2 kj10 l3 t230 false) else (clapperlaw11_RevokeTells.j2 kj10 l3 t230 true))) else (clapperlaw11_RevokeTells.j2 kj10 l3 t230 true)) else (if t234.isNone = true then (clapperlaw11_RevokeTells.j2 kj10 l3 t230 true) else (if (t234.getD 0) = 1 then (clapperlaw11_RevokeTells.j2 kj10 l3 t230 ((t233.length : Int) != 0)) else (clapperlaw11_RevokeTells.j2 kj10 l3 t230 true))))) = some r := H
        have A21 := Aside0.mk A210
        clear A210
        by_cases c22 : (t238 != x11_10) = true
        ·rw [if_pos c22] at H
         have c22b0 : (t238 != x11_10) = true := c22
         (try (have c22b1 : decide (t238 = x11_10) = false := by simpa using c22))
         (try (have c22b2 : (t238 == x11_10) = false := by simpa using c22))
         (try (have c22b3 : ¬ (t238 = x11_10) := by simpa using c22))
         clear c22
         have H' := Aside0.mk H
         clear H
         try go_wp2
         have n0_ := Aside0.mk (Kd.R_drew HO236.out)
         have n1_ := Aside0.mk (below_drew1 HB.out)
         clear HO236
         clear HB
         have HO236 := n0_
         have HB := n1_
         clear n0_ n1_
         refine start_ (n := 40) (S := fun w' => True) (ds := []) (bs 40 0) (by kernel_rfl) rfl rfl trivial (fun hHeld => ?_); refine with_tabW clapperlaw11_RevokeTells.tab7 clapperlaw11_RevokeTells.bits7 (fun HT_ HW_ => ?_)
         generalize w16.drew = w23 at HO236 HB hHeld ⊢
         refine pure_ (i := 0) (N := some 42) (v := ?_) (a' := ?_) (bs 40 1) rfl rfl (any_of HT_.out (by kernel_rfl)) (fun _ _ _ h => h) (Or.inl ⟨by rfl, ?_⟩) ?_ ?_
         rotate_left
         ·intro w'
          go_simp
          with_reducible rfl
         rotate_left
         ·simp only [aS, i64_w, i32_w]
          rfl
         refine pure_ (i := 2) (N := some 44) (v := ?_) (a' := ?_) (bs 40 5) rfl rfl (any_of HT_.out (by kernel_rfl)) (fun _ _ _ h => h) (Or.inl ⟨by rfl, ?_⟩) ?_ ?_
         rotate_left
         ·intro w'
          go_simp
          with_reducible rfl
         rotate_left
         ·simp only [aS, i64_w, i32_w]
          rfl
         refine one_ (i := 1) (N := some 43) (bs 40 7) rfl rfl (one_of HT_.out (by kernel_rfl)) (by decide) (fun K hK => ?_)
         refine goes_ Try.func13 (by kernel_rfl) rfl #[.slice A0 l0.length c0] (by rfl) rfl rfl (by (try simp only [List.map_toArray, List.map_cons, List.map_nil]); first | done | rfl | (simp only [List.length_drop, List.length_take]; rfl)) ?_
         with_reducible refine (revoke_May.calls kj10 _ _ l0 t237 _ ?side1 ?side2 A17.out).mono ?_
         (case side1 => repeat (first | exact (Kd.C_below HR0.out HB.out) | (with_reducible refine Kd.C_alloc ?_ _) | (with_reducible refine Kd.C_drewN ?_ _) | (with_reducible refine Kd.C_drew ?_)))
         (case side2 => exact HC0.out)
         rintro e w24 ⟨rfl, hb⟩
         refine ⟨_, rfl, ?_⟩
         have n0_ := Aside0.mk (Kd.R_below (by (with_reducible repeat (first | apply Kd.R_alloc | apply Kd.R_drewN | apply Kd.R_drew)); exact HO236.out) hb)
         have n1_ := Aside0.mk (below_step (by repeat (first | (with_reducible first | exact HB.out | apply below_alloc | apply pw_below_drewN | apply below_drew1) | exact HB.out)) hb)
         clear HO236
         clear HB
         have HO236 := n0_
         have HB := n1_
         clear n0_ n1_
         (try clear hb)
         (try clear hb2)
         (try clear hk)
         (try clear hi)
         refine hK.out _ _ trivial (fun hHeld => ?_)
         clear hK K
         refine nm_ (some 43) ?_
         refine pure_ (i := 3) (N := some 45) (v := ?_) (a' := ?_) (bs 40 15) rfl rfl (any_of HT_.out (by kernel_rfl)) (fun _ _ _ h => h) (Or.inl ⟨by rfl, ?_⟩) ?_ ?_
         rotate_left
         ·intro w'
          go_simp
          with_reducible rfl
         rotate_left
         ·simp only [aS, i64_w, i32_w]
          rfl
         refine pure_ (i := 4) (N := some 46) (v := ?_) (a' := ?_) (bs 40 31) rfl rfl (any_of HT_.out (by kernel_rfl)) (fun _ _ _ h => h) (Or.inl ⟨by rfl, ?_⟩) ?_ ?_
         rotate_left
         ·intro w'
          go_simp
          with_reducible rfl
         rotate_left
         ·simp only [aS, i64_w, i32_w]
          rfl
         refine pure_ (i := 5) (N := some 47) (v := ?_) (a' := ?_) (bs 40 63) rfl rfl (any_of HT_.out (by kernel_rfl)) (fun _ _ _ h => h) (Or.inl ⟨by rfl, ?_⟩) ?_ ?_
         rotate_left
         ·intro w'
          go_simp
          with_reducible rfl
         rotate_left
         ·simp only [aS, i64_w, i32_w]
          rfl
         refine pure_ (i := 6) (N := some 48) (v := ?_) (a' := ?_) (bs 40 127) rfl rfl (any_of HT_.out (by kernel_rfl)) (fun _ _ _ h => h) (Or.inl ⟨by rfl, ?_⟩) ?_ ?_
         rotate_left
         ·intro w'
          go_simp
          with_reducible rfl
         rotate_left
         ·simp only [aS, i64_w, i32_w]
          rfl
         refine pure_ (i := 7) (N := some 49) (v := ?_) (a' := ?_) (bs 40 255) rfl rfl (any_of HT_.out (by kernel_rfl)) (fun _ _ _ h => h) (Or.inl ⟨by rfl, ?_⟩) ?_ ?_
         rotate_left
         ·intro w'
          go_simp
          with_reducible rfl
         rotate_left
         ·simp only [aS, i64_w, i32_w]
          rfl
         refine pure_ (i := 9) (N := some 51) (v := ?_) (a' := ?_) (bs 40 767) rfl rfl (any_of HT_.out (by kernel_rfl)) (fun _ _ _ h => h) (Or.inl ⟨by rfl, ?_⟩) ?_ ?_
         rotate_left
         ·intro w'
          go_simp
          with_reducible rfl
         rotate_left
         ·simp only [aS, i64_w, i32_w]
          rfl
         refine one_ (i := 8) (N := some 50) (bs 40 1023) rfl rfl (one_of HT_.out (by kernel_rfl)) (by decide) (fun K hK => ?_)
         refine goes_ Try.func14 (by kernel_rfl) rfl #[.slice A0 l0.length c0, .int .i64 a1, .int .i64 a2] (by rfl) rfl rfl (by (try simp only [List.map_toArray, List.map_cons, List.map_nil]); first | done | rfl | (simp only [List.length_drop, List.length_take]; rfl)) ?_
         with_reducible refine (revoke_Is.calls kj10 _ _ l0 a1 a2 t238 _ ?side1 ?side2 A21.out).mono ?_
         (case side1 => repeat (first | exact (Kd.C_below HR0.out HB.out) | (with_reducible refine Kd.C_alloc ?_ _) | (with_reducible refine Kd.C_drewN ?_ _) | (with_reducible refine Kd.C_drew ?_)))
         (case side2 => exact HC0.out)
         rintro e w25 ⟨rfl, hb⟩
         refine ⟨_, rfl, ?_⟩
         have n0_ := Aside0.mk (Kd.R_below (by (with_reducible repeat (first | apply Kd.R_alloc | apply Kd.R_drewN | apply Kd.R_drew)); exact HO236.out) hb)
         have n1_ := Aside0.mk (below_step (by repeat (first | (with_reducible first | exact HB.out | apply below_alloc | apply pw_below_drewN | apply below_drew1) | exact HB.out)) hb)
         clear HO236
         clear HB
         have HO236 := n0_
         have HB := n1_
         clear n0_ n1_
         (try clear hb)
         (try clear hb2)
         (try clear hk)
         (try clear hi)
         refine hK.out _ _ trivial (fun hHeld => ?_)
         clear hK K
         refine nm_ (some 50) ?_
         refine pure_ (i := 10) (N := some 52) (v := ?_) (a' := ?_) (bs 40 2047) rfl rfl (any_of HT_.out (by kernel_rfl)) (fun _ _ _ h => h) (Or.inl ⟨by rfl, ?_⟩) ?_ ?_
         rotate_left
         ·intro w'
          go_simp
          with_reducible rfl
         rotate_left
         ·simp only [aS, i64_w, i32_w]
          rfl
         refine pure_ (i := 11) (N := some 53) (v := ?_) (a' := ?_) (bs 40 4095) rfl rfl (any_of HT_.out (by kernel_rfl)) (fun _ _ _ h => h) (Or.inl ⟨by rfl, ?_⟩) ?_ ?_
         rotate_left
         ·intro w'
          go_simp
          with_reducible rfl
         rotate_left
         ·simp only [aS, i64_w, i32_w]
          rfl
         refine pure_ (i := 12) (N := some 54) (v := ?_) (a' := ?_) (bs 40 8191) rfl rfl (any_of HT_.out (by kernel_rfl)) (fun _ _ _ h => h) (Or.inl ⟨by rfl, ?_⟩) ?_ ?_
         rotate_left
         ·intro w'
          go_simp
          with_reducible rfl
         rotate_left
         ·simp only [aS, i64_w, i32_w]
          rfl
         refine pure_ (i := 13) (N := some 55) (v := undef) (a' := ?_) (bs 40 16383) rfl rfl (any_of HT_.out (by kernel_rfl)) (fun _ _ _ h => h) (Or.inr ⟨by rfl, rfl⟩) ?_ ?_
         rotate_left
         ·simp only [aS, i64_w, i32_w]
          rfl
         refine pure_ (i := 14) (N := some 56) (v := undef) (a' := ?_) (bs 40 32767) rfl rfl (any_of HT_.out (by kernel_rfl)) (fun _ _ _ h => h) (Or.inr ⟨by rfl, rfl⟩) ?_ ?_
         rotate_left
         ·simp only [aS, i64_w, i32_w]
          rfl
         refine pure_ (i := 15) (N := some 57) (v := undef) (a' := ?_) (bs 40 65535) rfl rfl (any_of HT_.out (by kernel_rfl)) (fun _ _ _ h => h) (Or.inr ⟨by rfl, rfl⟩) ?_ ?_
         rotate_left
         ·simp only [aS, i64_w, i32_w]
          rfl
         refine pure_ (i := 16) (N := some 58) (v := undef) (a' := ?_) (bs 40 131071) rfl rfl (any_of HT_.out (by kernel_rfl)) (fun _ _ _ h => h) (Or.inr ⟨by rfl, rfl⟩) ?_ ?_
         rotate_left
         ·simp only [aS, i64_w, i32_w]
          rfl
         refine pure_ (i := 17) (N := some 59) (v := undef) (a' := ?_) (bs 40 262143) rfl rfl (any_of HT_.out (by kernel_rfl)) (fun _ _ _ h => h) (Or.inr ⟨by rfl, rfl⟩) ?_ ?_
         rotate_left
         ·simp only [aS, i64_w, i32_w]
          rfl
         refine pure_ (i := 18) (N := some 60) (v := undef) (a' := ?_) (bs 40 524287) rfl rfl (any_of HT_.out (by kernel_rfl)) (fun _ _ _ h => h) (Or.inr ⟨by rfl, rfl⟩) ?_ ?_
         rotate_left
         ·simp only [aS, i64_w, i32_w]
          rfl
         refine pure_ (i := 19) (N := some 61) (v := undef) (a' := ?_) (bs 40 1048575) rfl rfl (any_of HT_.out (by kernel_rfl)) (fun _ _ _ h => h) (Or.inr ⟨by rfl, rfl⟩) ?_ ?_
         rotate_left
         ·simp only [aS, i64_w, i32_w]
          rfl
         refine pure_ (i := 20) (N := some 62) (v := undef) (a' := ?_) (bs 40 2097151) rfl rfl (any_of HT_.out (by kernel_rfl)) (fun _ _ _ h => h) (Or.inr ⟨by rfl, rfl⟩) ?_ ?_
         rotate_left
         ·simp only [aS, i64_w, i32_w]
          rfl
         refine pure_ (i := 21) (N := some 63) (v := undef) (a' := ?_) (bs 40 4194303) rfl rfl (any_of HT_.out (by kernel_rfl)) (fun _ _ _ h => h) (Or.inr ⟨by rfl, rfl⟩) ?_ ?_
         rotate_left
         ·simp only [aS, i64_w, i32_w]
          rfl
         refine pure_ (i := 22) (N := some 64) (v := undef) (a' := ?_) (bs 40 8388607) rfl rfl (any_of HT_.out (by kernel_rfl)) (fun _ _ _ h => h) (Or.inr ⟨by rfl, rfl⟩) ?_ ?_
         rotate_left
         ·simp only [aS, i64_w, i32_w]
          rfl
         refine pure_ (i := 23) (N := some 65) (v := undef) (a' := ?_) (bs 40 16777215) rfl rfl (any_of HT_.out (by kernel_rfl)) (fun _ _ _ h => h) (Or.inr ⟨by rfl, rfl⟩) ?_ ?_
         rotate_left
         ·simp only [aS, i64_w, i32_w]
          rfl
         refine pure_ (i := 24) (N := some 66) (v := undef) (a' := ?_) (bs 40 33554431) rfl rfl (any_of HT_.out (by kernel_rfl)) (fun _ _ _ h => h) (Or.inr ⟨by rfl, rfl⟩) ?_ ?_
         rotate_left
         ·simp only [aS, i64_w, i32_w]
          rfl
         refine pure_ (i := 25) (N := some 67) (v := ?_) (a' := ?_) (bs 40 67108863) rfl rfl (any_of HT_.out (by kernel_rfl)) (fun _ _ _ h => h) (Or.inl ⟨by rfl, ?_⟩) ?_ ?_
         rotate_left
         ·intro w'
          go_simp
          with_reducible rfl
         rotate_left
         ·simp only [aS, i64_w, i32_w]
          rfl
         refine pure_ (i := 26) (N := some 68) (v := ?_) (a' := ?_) (bs 40 134217727) rfl rfl (any_of HT_.out (by kernel_rfl)) (fun _ _ _ h => h) (Or.inl ⟨by rfl, ?_⟩) ?_ ?_
         rotate_left
         ·intro w'
          go_simp
          with_reducible rfl
         rotate_left
         ·simp only [aS, i64_w, i32_w]
          rfl
         refine pure_ (i := 27) (N := some 69) (v := undef) (a' := ?_) (bs 40 268435455) rfl rfl (any_of HT_.out (by kernel_rfl)) (fun _ _ _ h => h) (Or.inr ⟨by rfl, rfl⟩) ?_ ?_
         rotate_left
         ·simp only [aS, i64_w, i32_w]
          rfl
         refine pure_ (i := 28) (N := some 70) (v := undef) (a' := ?_) (bs 40 536870911) rfl rfl (any_of HT_.out (by kernel_rfl)) (fun _ _ _ h => h) (Or.inr ⟨by rfl, rfl⟩) ?_ ?_
         rotate_left
         ·simp only [aS, i64_w, i32_w]
          rfl
         refine pure_ (i := 29) (N := some 71) (v := undef) (a' := ?_) (bs 40 1073741823) rfl rfl (any_of HT_.out (by kernel_rfl)) (fun _ _ _ h => h) (Or.inr ⟨by rfl, rfl⟩) ?_ ?_
         rotate_left
         ·simp only [aS, i64_w, i32_w]
          rfl
         refine pure_ (i := 30) (N := some 72) (v := undef) (a' := ?_) (bs 40 2147483647) rfl rfl (any_of HT_.out (by kernel_rfl)) (fun _ _ _ h => h) (Or.inr ⟨by rfl, rfl⟩) ?_ ?_
         rotate_left
         ·simp only [aS, i64_w, i32_w]
          rfl
         refine pure_ (i := 31) (N := some 73) (v := undef) (a' := ?_) (bs 40 4294967295) rfl rfl (any_of HT_.out (by kernel_rfl)) (fun _ _ _ h => h) (Or.inr ⟨by rfl, rfl⟩) ?_ ?_
         rotate_left
         ·simp only [aS, i64_w, i32_w]
          rfl
         refine pure_ (i := 32) (N := some 74) (v := undef) (a' := ?_) (bs 40 8589934591) rfl rfl (any_of HT_.out (by kernel_rfl)) (fun _ _ _ h => h) (Or.inr ⟨by rfl, rfl⟩) ?_ ?_
         rotate_left
         ·simp only [aS, i64_w, i32_w]
          rfl
         refine pure_ (i := 33) (N := some 75) (v := undef) (a' := ?_) (bs 40 17179869183) rfl rfl (any_of HT_.out (by kernel_rfl)) (fun _ _ _ h => h) (Or.inr ⟨by rfl, rfl⟩) ?_ ?_
         rotate_left
         ·simp only [aS, i64_w, i32_w]
          rfl
         refine pure_ (i := 34) (N := some 76) (v := undef) (a' := ?_) (bs 40 34359738367) rfl rfl (any_of HT_.out (by kernel_rfl)) (fun _ _ _ h => h) (Or.inr ⟨by rfl, rfl⟩) ?_ ?_
         rotate_left
         ·simp only [aS, i64_w, i32_w]
          rfl
         refine pure_ (i := 35) (N := some 77) (v := undef) (a' := ?_) (bs 40 68719476735) rfl rfl (any_of HT_.out (by kernel_rfl)) (fun _ _ _ h => h) (Or.inr ⟨by rfl, rfl⟩) ?_ ?_
         rotate_left
         ·simp only [aS, i64_w, i32_w]
          rfl
         refine pure_ (i := 36) (N := some 78) (v := undef) (a' := ?_) (bs 40 137438953471) rfl rfl (any_of HT_.out (by kernel_rfl)) (fun _ _ _ h => h) (Or.inr ⟨by rfl, rfl⟩) ?_ ?_
         rotate_left
         ·simp only [aS, i64_w, i32_w]
          rfl
         refine pure_ (i := 37) (N := some 79) (v := undef) (a' := ?_) (bs 40 274877906943) rfl rfl (any_of HT_.out (by kernel_rfl)) (fun _ _ _ h => h) (Or.inr ⟨by rfl, rfl⟩) ?_ ?_
         rotate_left
         ·simp only [aS, i64_w, i32_w]
          rfl
         refine pure_ (i := 38) (N := some 80) (v := undef) (a' := ?_) (bs 40 549755813887) rfl rfl (any_of HT_.out (by kernel_rfl)) (fun _ _ _ h => h) (Or.inr ⟨by rfl, rfl⟩) ?_ ?_
         rotate_left
         ·simp only [aS, i64_w, i32_w]
          rfl
         refine pure_ (i := 39) (N := some 81) (v := ?_) (a' := ?_) (bs 40 1099511627775) rfl rfl (any_of HT_.out (by kernel_rfl)) (fun _ _ _ h => h) (Or.inl ⟨by rfl, ?_⟩) ?_ ?_
         rotate_left
         ·intro w'
          go_simp
          with_reducible rfl
         rotate_left
         ·simp only [aS, i64_w, i32_w]
          rfl
         refine done_ (done_of HT_.out (by kernel_rfl)) ?_
         try go_wp2
         go_meet
         case rel => exact ⟨_, (true), (by first | rfl | (simp; done) | (simp [*]; done)), H', ⟨by have := HJ5.out; have := HJ10.out; first | omega | exact Nat.le_refl _⟩, ⟨by repeat (first | (with_reducible first | exact HB.out | apply below_alloc | apply pw_below_drewN | apply below_drew1) | exact HB.out)⟩⟩
        ·rw [if_neg c22] at H
         have c22b0 : (t238 != x11_10) = false := by simpa using c22
         (try (have c22b1 : decide (t238 = x11_10) = true := by simpa using c22))
         (try (have c22b2 : (t238 == x11_10) = true := by simpa using c22))
         clear c22
         by_cases c26 : t231 = true
         ·subst c26
          have H1 : (if t234.isNone = true then ((clapperref11_Bytes.f kj10 l0).bind fun t240 => (if (strOfNums t233).toList = t240.toList then (clapperlaw11_RevokeTells.j2 kj10 l3 t230 false) else (clapperlaw11_RevokeTells.j2 kj10 l3 t230 true))) else (clapperlaw11_RevokeTells.j2 kj10 l3 t230 true)) = some r := by rw [if_pos rfl] at H; exact H
          clear H
          have H := H1
          clear H1
          rcases t234 with _ | q239
          ·have H1 : ((clapperref11_Bytes.f kj10 l0).bind fun t240 => (if (strOfNums t233).toList = t240.toList then (clapperlaw11_RevokeTells.j2 kj10 l3 t230 false) else (clapperlaw11_RevokeTells.j2 kj10 l3 t230 true))) = some r := by rw [if_pos (show (none : Option Int).isNone = true by rfl)] at H; exact H
           clear H
           have H := H1
           clear H1
           try simp only [errW_none, errW_some]
           replace H := Option.bind_eq_some_iff.mp H
           obtain ⟨t240, A270, H⟩ := H
           replace H : (if (strOfNums t233).toList = t240.toList then (clapperlaw11_RevokeTells.j2 kj10 l3 t230 false) else (clapperlaw11_RevokeTells.j2 kj10 l3 t230 true)) = some r := H
           have A27 := Aside0.mk A270
           clear A270
           by_cases c28 : (strOfNums t233).toList = t240.toList
           ·rw [if_pos c28] at H
            have c28b0 : ((strOfNums t233).toList == t240.toList) = true := beq_iff_eq.mpr c28
            have c28b1 : ((strOfNums t233).toList != t240.toList) = false := bne_eq_false_iff_eq.mpr c28
            clear c28
            have H' := Aside0.mk H
            clear H
            try go_wp2
            have n0_ := Aside0.mk (Kd.R_drew HO236.out)
            have n1_ := Aside0.mk (below_drew1 HB.out)
            clear HO236
            clear HB
            have HO236 := n0_
            have HB := n1_
            clear n0_ n1_
            refine start_ (n := 40) (S := fun w' => (convert 32 9 v235).run Try.prog w' = .ok (.string (strOfNums t233)) w') (ds := []) (bs 40 0) (by kernel_rfl) rfl rfl ((own_string (P := Try.prog) Try.underlying32 Try.underlying5 Try.underlying9 (Kd.own_of_R HO236.out))) (fun hHeld => ?_); refine with_tabW clapperlaw11_RevokeTells.tab7 clapperlaw11_RevokeTells.bits7 (fun HT_ HW_ => ?_)
            generalize w16.drew = w29 at HO236 HB hHeld ⊢
            refine pure_ (i := 0) (N := some 42) (v := ?_) (a' := ?_) (bs 40 1) rfl rfl (any_of HT_.out (by kernel_rfl)) (fun _ _ _ h => h) (Or.inl ⟨by rfl, ?_⟩) ?_ ?_
            rotate_left
            ·intro w'
             go_simp
             with_reducible rfl
            rotate_left
            ·simp only [aS, i64_w, i32_w]
             rfl
            refine pure_ (i := 2) (N := some 44) (v := ?_) (a' := ?_) (bs 40 5) rfl rfl (any_of HT_.out (by kernel_rfl)) (fun _ _ _ h => h) (Or.inl ⟨by rfl, ?_⟩) ?_ ?_
            rotate_left
            ·intro w'
             go_simp
             with_reducible rfl
            rotate_left
            ·simp only [aS, i64_w, i32_w]
             rfl
            refine one_ (i := 1) (N := some 43) (bs 40 7) rfl rfl (one_of HT_.out (by kernel_rfl)) (by decide) (fun K hK => ?_)
            refine goes_ Try.func13 (by kernel_rfl) rfl #[.slice A0 l0.length c0] (by rfl) rfl rfl (by (try simp only [List.map_toArray, List.map_cons, List.map_nil]); first | done | rfl | (simp only [List.length_drop, List.length_take]; rfl)) ?_
            with_reducible refine (revoke_May.calls kj10 _ _ l0 t237 _ ?side1 ?side2 A17.out).mono ?_
            (case side1 => repeat (first | exact (Kd.C_below HR0.out HB.out) | (with_reducible refine Kd.C_alloc ?_ _) | (with_reducible refine Kd.C_drewN ?_ _) | (with_reducible refine Kd.C_drew ?_)))
            (case side2 => exact HC0.out)
            rintro e w30 ⟨rfl, hb⟩
            refine ⟨_, rfl, ?_⟩
            have n0_ := Aside0.mk (Kd.R_below (by (with_reducible repeat (first | apply Kd.R_alloc | apply Kd.R_drewN | apply Kd.R_drew)); exact HO236.out) hb)
            have n1_ := Aside0.mk (below_step (by repeat (first | (with_reducible first | exact HB.out | apply below_alloc | apply pw_below_drewN | apply below_drew1) | exact HB.out)) hb)
            clear HO236
            clear HB
            have HO236 := n0_
            have HB := n1_
            clear n0_ n1_
            (try clear hb)
            (try clear hb2)
            (try clear hk)
            (try clear hi)
            refine hK.out _ _ ((own_string (P := Try.prog) Try.underlying32 Try.underlying5 Try.underlying9 (Kd.own_of_R HO236.out))) (fun hHeld => ?_)
            clear hK K
            refine nm_ (some 43) ?_
            refine pure_ (i := 3) (N := some 45) (v := ?_) (a' := ?_) (bs 40 15) rfl rfl (any_of HT_.out (by kernel_rfl)) (fun _ _ _ h => h) (Or.inl ⟨by rfl, ?_⟩) ?_ ?_
            rotate_left
            ·intro w'
             go_simp
             with_reducible rfl
            rotate_left
            ·simp only [aS, i64_w, i32_w]
             rfl
            refine pure_ (i := 4) (N := some 46) (v := ?_) (a' := ?_) (bs 40 31) rfl rfl (any_of HT_.out (by kernel_rfl)) (fun _ _ _ h => h) (Or.inl ⟨by rfl, ?_⟩) ?_ ?_
            rotate_left
            ·intro w'
             go_simp
             with_reducible rfl
            rotate_left
            ·simp only [aS, i64_w, i32_w]
             rfl
            refine pure_ (i := 5) (N := some 47) (v := ?_) (a' := ?_) (bs 40 63) rfl rfl (any_of HT_.out (by kernel_rfl)) (fun _ _ _ h => h) (Or.inl ⟨by rfl, ?_⟩) ?_ ?_
            rotate_left
            ·intro w'
             go_simp
             with_reducible rfl
            rotate_left
            ·simp only [aS, i64_w, i32_w]
             rfl
            refine pure_ (i := 6) (N := some 48) (v := ?_) (a' := ?_) (bs 40 127) rfl rfl (any_of HT_.out (by kernel_rfl)) (fun _ _ _ h => h) (Or.inl ⟨by rfl, ?_⟩) ?_ ?_
            rotate_left
            ·intro w'
             go_simp
             with_reducible rfl
            rotate_left
            ·simp only [aS, i64_w, i32_w]
             rfl
            refine pure_ (i := 7) (N := some 49) (v := ?_) (a' := ?_) (bs 40 255) rfl rfl (any_of HT_.out (by kernel_rfl)) (fun _ _ _ h => h) (Or.inl ⟨by rfl, ?_⟩) ?_ ?_
            rotate_left
            ·intro w'
             go_simp
             with_reducible rfl
            rotate_left
            ·simp only [aS, i64_w, i32_w]
             rfl
            refine pure_ (i := 9) (N := some 51) (v := ?_) (a' := ?_) (bs 40 767) rfl rfl (any_of HT_.out (by kernel_rfl)) (fun _ _ _ h => h) (Or.inl ⟨by rfl, ?_⟩) ?_ ?_
            rotate_left
            ·intro w'
             go_simp
             with_reducible rfl
            rotate_left
            ·simp only [aS, i64_w, i32_w]
             rfl
            refine one_ (i := 8) (N := some 50) (bs 40 1023) rfl rfl (one_of HT_.out (by kernel_rfl)) (by decide) (fun K hK => ?_)
            refine goes_ Try.func14 (by kernel_rfl) rfl #[.slice A0 l0.length c0, .int .i64 a1, .int .i64 a2] (by rfl) rfl rfl (by (try simp only [List.map_toArray, List.map_cons, List.map_nil]); first | done | rfl | (simp only [List.length_drop, List.length_take]; rfl)) ?_
            with_reducible refine (revoke_Is.calls kj10 _ _ l0 a1 a2 t238 _ ?side1 ?side2 A21.out).mono ?_
            (case side1 => repeat (first | exact (Kd.C_below HR0.out HB.out) | (with_reducible refine Kd.C_alloc ?_ _) | (with_reducible refine Kd.C_drewN ?_ _) | (with_reducible refine Kd.C_drew ?_)))
            (case side2 => exact HC0.out)
            rintro e w31 ⟨rfl, hb⟩
            refine ⟨_, rfl, ?_⟩
            have n0_ := Aside0.mk (Kd.R_below (by (with_reducible repeat (first | apply Kd.R_alloc | apply Kd.R_drewN | apply Kd.R_drew)); exact HO236.out) hb)
            have n1_ := Aside0.mk (below_step (by repeat (first | (with_reducible first | exact HB.out | apply below_alloc | apply pw_below_drewN | apply below_drew1) | exact HB.out)) hb)
            clear HO236
            clear HB
            have HO236 := n0_
            have HB := n1_
            clear n0_ n1_
            (try clear hb)
            (try clear hb2)
            (try clear hk)
            (try clear hi)
            refine hK.out _ _ ((own_string (P := Try.prog) Try.underlying32 Try.underlying5 Try.underlying9 (Kd.own_of_R HO236.out))) (fun hHeld => ?_)
            clear hK K
            refine nm_ (some 50) ?_
            refine pure_ (i := 10) (N := some 52) (v := ?_) (a' := ?_) (bs 40 2047) rfl rfl (any_of HT_.out (by kernel_rfl)) (fun _ _ _ h => h) (Or.inl ⟨by rfl, ?_⟩) ?_ ?_
            rotate_left
            ·intro w'
             go_simp
             with_reducible rfl
            rotate_left
            ·simp only [aS, i64_w, i32_w]
             rfl
            refine pure_ (i := 11) (N := some 53) (v := ?_) (a' := ?_) (bs 40 4095) rfl rfl (any_of HT_.out (by kernel_rfl)) (fun _ _ _ h => h) (Or.inl ⟨by rfl, ?_⟩) ?_ ?_
            rotate_left
            ·intro w'
             go_simp
             with_reducible rfl
            rotate_left
            ·simp only [aS, i64_w, i32_w]
             rfl
            refine pure_ (i := 12) (N := some 54) (v := ?_) (a' := ?_) (bs 40 8191) rfl rfl (any_of HT_.out (by kernel_rfl)) (fun _ _ _ h => h) (Or.inl ⟨by rfl, ?_⟩) ?_ ?_
            rotate_left
            ·intro w'
             go_simp
             with_reducible rfl
            rotate_left
            ·simp only [aS, i64_w, i32_w]
             rfl
            refine pure_ (i := 13) (N := some 55) (v := ?_) (a' := ?_) (bs 40 16383) rfl rfl (any_of HT_.out (by kernel_rfl)) (fun _ _ _ h => h) (Or.inl ⟨by rfl, ?_⟩) ?_ ?_
            rotate_left
            ·intro w'
             go_simp
             with_reducible rfl
            rotate_left
            ·simp only [aS, i64_w, i32_w]
             rfl
            refine pure_ (i := 14) (N := some 56) (v := ?_) (a' := ?_) (bs 40 32767) rfl rfl (any_of HT_.out (by kernel_rfl)) (fun _ _ _ h => h) (Or.inl ⟨by rfl, ?_⟩) ?_ ?_
            rotate_left
            ·intro w'
             go_simp
             with_reducible rfl
            rotate_left
            ·simp only [aS, i64_w, i32_w]
             rfl
            refine pure_ (i := 15) (N := some 57) (v := ?_) (a' := ?_) (bs 40 65535) rfl rfl (any_of HT_.out (by kernel_rfl)) (fun _ _ _ h => h) (Or.inl ⟨by rfl, ?_⟩) ?_ ?_
            rotate_left
            ·intro w'
             go_simp
             with_reducible rfl
            rotate_left
            ·simp only [aS, i64_w, i32_w]
             rfl
            refine pure_ (i := 16) (N := some 58) (v := ?_) (a' := ?_) (bs 40 131071) rfl rfl (any_of HT_.out (by kernel_rfl)) (fun _ _ _ h => h) (Or.inl ⟨by rfl, ?_⟩) ?_ ?_
            rotate_left
            ·intro w'
             go_simp
             with_reducible rfl
            rotate_left
            ·simp only [aS, i64_w, i32_w]
             rfl
            refine pure_ (i := 17) (N := some 59) (v := ?_) (a' := ?_) (bs 40 262143) rfl rfl (any_of HT_.out (by kernel_rfl)) (fun _ _ _ h => h) (Or.inl ⟨by rfl, ?_⟩) ?_ ?_
            rotate_left
            ·intro w'
             go_simp
             with_reducible rfl
            rotate_left
            ·simp only [aS, i64_w, i32_w]
             rfl
            refine pure_ (i := 18) (N := some 60) (v := ?_) (a' := ?_) (bs 40 524287) rfl rfl (any_of HT_.out (by kernel_rfl)) (fun _ _ _ h => h) (Or.inl ⟨by rfl, ?_⟩) ?_ ?_
            rotate_left
            ·intro w'
             go_simp
             with_reducible rfl
            rotate_left
            ·simp only [aS, i64_w, i32_w]
             rfl
            refine pure_ (i := 20) (N := some 62) (v := ?_) (a' := ?_) (bs 40 1572863) rfl rfl (any_of HT_.out (by kernel_rfl)) (fun _ _ _ h => h) (Or.inl ⟨by rfl, ?_⟩) ?_ ?_
            rotate_left
            ·intro w'
             go_simp
             with_reducible rfl
            rotate_left
            ·simp only [aS, i64_w, i32_w]
             rfl
            refine take_ (i := 19) (N := some 61) (v := ?_) (a' := ?_) (bs 40 2097151) rfl rfl (take_ofW HT_.out HW_.out (by kernel_rfl)) (fun _ _ _ h => h) (Or.inl ⟨by rfl, ?_⟩) hHeld ?_ ?_
            rotate_left
            ·intro w' s0
             go_simp
             with_reducible rfl
            rotate_left
            ·simp only [aS, i64_w, i32_w]
             rfl
            refine one_ (i := 21) (N := some 63) (bs 40 4194303) rfl rfl (one_of HT_.out (by kernel_rfl)) (by decide) (fun K hK => ?_)
            refine goes_ Try.func15 (by kernel_rfl) rfl #[.slice A0 l0.length c0] (by rfl) rfl rfl (by (try simp only [List.map_toArray, List.map_cons, List.map_nil]); first | done | rfl | (simp only [List.length_drop, List.length_take]; rfl)) ?_
            with_reducible refine (clapperref11_Bytes.calls kj10 _ _ l0 t240 _ ?side1 ?side2 A27.out).mono ?_
            (case side1 => repeat (first | exact (Kd.C_below HR0.out HB.out) | (with_reducible refine Kd.C_alloc ?_ _) | (with_reducible refine Kd.C_drewN ?_ _) | (with_reducible refine Kd.C_drew ?_)))
            (case side2 => exact HC0.out)
            rintro e w32 ⟨rfl, hb⟩
            refine ⟨_, rfl, ?_⟩
            have n0_ := Aside0.mk (Kd.R_below (by (with_reducible repeat (first | apply Kd.R_alloc | apply Kd.R_drewN | apply Kd.R_drew)); exact HO236.out) hb)
            have n1_ := Aside0.mk (below_step (by repeat (first | (with_reducible first | exact HB.out | apply below_alloc | apply pw_below_drewN | apply below_drew1) | exact HB.out)) hb)
            clear HO236
            clear HB
            have HO236 := n0_
            have HB := n1_
            clear n0_ n1_
            (try clear hb)
            (try clear hb2)
            (try clear hk)
            (try clear hi)
            refine hK.out _ _ ((own_string (P := Try.prog) Try.underlying32 Try.underlying5 Try.underlying9 (Kd.own_of_R HO236.out))) (fun hHeld => ?_)
            clear hK K
            refine nm_ (some 63) ?_
            refine pure_ (i := 22) (N := some 64) (v := ?_) (a' := ?_) (bs 40 8388607) rfl rfl (any_of HT_.out (by kernel_rfl)) (fun _ _ _ h => h) (Or.inl ⟨by rfl, ?_⟩) ?_ ?_
            rotate_left
            ·intro w'
             go_simp
             with_reducible rfl
            rotate_left
            ·simp only [aS, i64_w, i32_w]
             rfl
            refine pure_ (i := 23) (N := some 65) (v := ?_) (a' := ?_) (bs 40 16777215) rfl rfl (any_of HT_.out (by kernel_rfl)) (fun _ _ _ h => h) (Or.inl ⟨by rfl, ?_⟩) ?_ ?_
            rotate_left
            ·intro w'
             go_simp
             with_reducible rfl
            rotate_left
            ·simp only [aS, i64_w, i32_w]
             rfl
            refine pure_ (i := 24) (N := some 66) (v := ?_) (a' := ?_) (bs 40 33554431) rfl rfl (any_of HT_.out (by kernel_rfl)) (fun _ _ _ h => h) (Or.inl ⟨by rfl, ?_⟩) ?_ ?_
            rotate_left
            ·intro w'
             go_simp
             with_reducible rfl
            rotate_left
            ·simp only [aS, i64_w, i32_w]
             rfl
            refine pure_ (i := 25) (N := some 67) (v := ?_) (a' := ?_) (bs 40 67108863) rfl rfl (any_of HT_.out (by kernel_rfl)) (fun _ _ _ h => h) (Or.inl ⟨by rfl, ?_⟩) ?_ ?_
            rotate_left
            ·intro w'
             go_simp
             with_reducible rfl
            rotate_left
            ·simp only [aS, i64_w, i32_w]
             rfl
            refine pure_ (i := 26) (N := some 68) (v := ?_) (a' := ?_) (bs 40 134217727) rfl rfl (any_of HT_.out (by kernel_rfl)) (fun _ _ _ h => h) (Or.inl ⟨by rfl, ?_⟩) ?_ ?_
            rotate_left
            ·intro w'
             go_simp
             with_reducible rfl
            rotate_left
            ·simp only [aS, i64_w, i32_w]
             rfl
            refine pure_ (i := 27) (N := some 69) (v := ?_) (a' := ?_) (bs 40 268435455) rfl rfl (any_of HT_.out (by kernel_rfl)) (fun _ _ _ h => h) (Or.inl ⟨by rfl, ?_⟩) ?_ ?_
            rotate_left
            ·intro w'
             go_simp
             with_reducible rfl
            rotate_left
            ·simp only [aS, i64_w, i32_w]
             rfl
            refine pure_ (i := 28) (N := some 70) (v := ?_) (a' := ?_) (bs 40 536870911) rfl rfl (any_of HT_.out (by kernel_rfl)) (fun _ _ _ h => h) (Or.inl ⟨by rfl, ?_⟩) ?_ ?_
            rotate_left
            ·intro w'
             go_simp
             with_reducible rfl
            rotate_left
            ·simp only [aS, i64_w, i32_w]
             rfl
            refine pure_ (i := 29) (N := some 71) (v := ?_) (a' := ?_) (bs 40 1073741823) rfl rfl (any_of HT_.out (by kernel_rfl)) (fun _ _ _ h => h) (Or.inl ⟨by rfl, ?_⟩) ?_ ?_
            rotate_left
            ·intro w'
             go_simp
             with_reducible rfl
            rotate_left
            ·simp only [aS, i64_w, i32_w]
             rfl
            refine pure_ (i := 30) (N := some 72) (v := undef) (a' := ?_) (bs 40 2147483647) rfl rfl (any_of HT_.out (by kernel_rfl)) (fun _ _ _ h => h) (Or.inr ⟨by rfl, rfl⟩) ?_ ?_
            rotate_left
            ·simp only [aS, i64_w, i32_w]
             rfl
            refine pure_ (i := 31) (N := some 73) (v := undef) (a' := ?_) (bs 40 4294967295) rfl rfl (any_of HT_.out (by kernel_rfl)) (fun _ _ _ h => h) (Or.inr ⟨by rfl, rfl⟩) ?_ ?_
            rotate_left
            ·simp only [aS, i64_w, i32_w]
             rfl
            refine pure_ (i := 32) (N := some 74) (v := undef) (a' := ?_) (bs 40 8589934591) rfl rfl (any_of HT_.out (by kernel_rfl)) (fun _ _ _ h => h) (Or.inr ⟨by rfl, rfl⟩) ?_ ?_
            rotate_left
            ·simp only [aS, i64_w, i32_w]
             rfl
            refine pure_ (i := 33) (N := some 75) (v := undef) (a' := ?_) (bs 40 17179869183) rfl rfl (any_of HT_.out (by kernel_rfl)) (fun _ _ _ h => h) (Or.inr ⟨by rfl, rfl⟩) ?_ ?_
            rotate_left
            ·simp only [aS, i64_w, i32_w]
             rfl
            refine pure_ (i := 34) (N := some 76) (v := undef) (a' := ?_) (bs 40 34359738367) rfl rfl (any_of HT_.out (by kernel_rfl)) (fun _ _ _ h => h) (Or.inr ⟨by rfl, rfl⟩) ?_ ?_
            rotate_left
            ·simp only [aS, i64_w, i32_w]
             rfl
            refine pure_ (i := 35) (N := some 77) (v := undef) (a' := ?_) (bs 40 68719476735) rfl rfl (any_of HT_.out (by kernel_rfl)) (fun _ _ _ h => h) (Or.inr ⟨by rfl, rfl⟩) ?_ ?_
            rotate_left
            ·simp only [aS, i64_w, i32_w]
             rfl
            refine pure_ (i := 36) (N := some 78) (v := undef) (a' := ?_) (bs 40 137438953471) rfl rfl (any_of HT_.out (by kernel_rfl)) (fun _ _ _ h => h) (Or.inr ⟨by rfl, rfl⟩) ?_ ?_
            rotate_left
            ·simp only [aS, i64_w, i32_w]
             rfl
            refine pure_ (i := 37) (N := some 79) (v := undef) (a' := ?_) (bs 40 274877906943) rfl rfl (any_of HT_.out (by kernel_rfl)) (fun _ _ _ h => h) (Or.inr ⟨by rfl, rfl⟩) ?_ ?_
            rotate_left
            ·simp only [aS, i64_w, i32_w]
             rfl
            refine pure_ (i := 38) (N := some 80) (v := ?_) (a' := ?_) (bs 40 549755813887) rfl rfl (any_of HT_.out (by kernel_rfl)) (fun _ _ _ h => h) (Or.inl ⟨by rfl, ?_⟩) ?_ ?_
            rotate_left
            ·intro w'
             go_simp
             with_reducible rfl
            rotate_left
            ·simp only [aS, i64_w, i32_w]
             rfl
            refine pure_ (i := 39) (N := some 81) (v := ?_) (a' := ?_) (bs 40 1099511627775) rfl rfl (any_of HT_.out (by kernel_rfl)) (fun _ _ _ h => h) (Or.inl ⟨by rfl, ?_⟩) ?_ ?_
            rotate_left
            ·intro w'
             go_simp
             with_reducible rfl
            rotate_left
            ·simp only [aS, i64_w, i32_w]
             rfl
            refine done_ (done_of HT_.out (by kernel_rfl)) ?_
            try go_wp2
            go_meet
            case rel => exact ⟨_, (false), (by first | rfl | (simp; done) | (simp [*]; done)), H', ⟨by have := HJ5.out; have := HJ10.out; first | omega | exact Nat.le_refl _⟩, ⟨by repeat (first | (with_reducible first | exact HB.out | apply below_alloc | apply pw_below_drewN | apply below_drew1) | exact HB.out)⟩⟩
           ·rw [if_neg c28] at H
            have c28b0 : ((strOfNums t233).toList == t240.toList) = false := beq_eq_false_iff_ne.mpr c28
            have c28b1 : ((strOfNums t233).toList != t240.toList) = true := bne_iff_ne.mpr c28
            have H' := Aside0.mk H
            clear H
            try go_wp2
            have n0_ := Aside0.mk (Kd.R_drew HO236.out)
            have n1_ := Aside0.mk (below_drew1 HB.out)
            clear HO236
            clear HB
            have HO236 := n0_
            have HB := n1_
            clear n0_ n1_
            refine start_ (n := 40) (S := fun w' => (convert 32 9 v235).run Try.prog w' = .ok (.string (strOfNums t233)) w') (ds := []) (bs 40 0) (by kernel_rfl) rfl rfl ((own_string (P := Try.prog) Try.underlying32 Try.underlying5 Try.underlying9 (Kd.own_of_R HO236.out))) (fun hHeld => ?_); refine with_tabW clapperlaw11_RevokeTells.tab7 clapperlaw11_RevokeTells.bits7 (fun HT_ HW_ => ?_)
            generalize w16.drew = w34 at HO236 HB hHeld ⊢
            refine pure_ (i := 0) (N := some 42) (v := ?_) (a' := ?_) (bs 40 1) rfl rfl (any_of HT_.out (by kernel_rfl)) (fun _ _ _ h => h) (Or.inl ⟨by rfl, ?_⟩) ?_ ?_
            rotate_left
            ·intro w'
             go_simp
             with_reducible rfl
            rotate_left
            ·simp only [aS, i64_w, i32_w]
             rfl
            refine pure_ (i := 2) (N := some 44) (v := ?_) (a' := ?_) (bs 40 5) rfl rfl (any_of HT_.out (by kernel_rfl)) (fun _ _ _ h => h) (Or.inl ⟨by rfl, ?_⟩) ?_ ?_
            rotate_left
            ·intro w'
             go_simp
             with_reducible rfl
            rotate_left
            ·simp only [aS, i64_w, i32_w]
             rfl
            refine one_ (i := 1) (N := some 43) (bs 40 7) rfl rfl (one_of HT_.out (by kernel_rfl)) (by decide) (fun K hK => ?_)
            refine goes_ Try.func13 (by kernel_rfl) rfl #[.slice A0 l0.length c0] (by rfl) rfl rfl (by (try simp only [List.map_toArray, List.map_cons, List.map_nil]); first | done | rfl | (simp only [List.length_drop, List.length_take]; rfl)) ?_
            with_reducible refine (revoke_May.calls kj10 _ _ l0 t237 _ ?side1 ?side2 A17.out).mono ?_
            (case side1 => repeat (first | exact (Kd.C_below HR0.out HB.out) | (with_reducible refine Kd.C_alloc ?_ _) | (with_reducible refine Kd.C_drewN ?_ _) | (with_reducible refine Kd.C_drew ?_)))
            (case side2 => exact HC0.out)
            rintro e w35 ⟨rfl, hb⟩
            refine ⟨_, rfl, ?_⟩
            have n0_ := Aside0.mk (Kd.R_below (by (with_reducible repeat (first | apply Kd.R_alloc | apply Kd.R_drewN | apply Kd.R_drew)); exact HO236.out) hb)
            have n1_ := Aside0.mk (below_step (by repeat (first | (with_reducible first | exact HB.out | apply below_alloc | apply pw_below_drewN | apply below_drew1) | exact HB.out)) hb)
            clear HO236
            clear HB
            have HO236 := n0_
            have HB := n1_
            clear n0_ n1_
            (try clear hb)
            (try clear hb2)
            (try clear hk)
            (try clear hi)
            refine hK.out _ _ ((own_string (P := Try.prog) Try.underlying32 Try.underlying5 Try.underlying9 (Kd.own_of_R HO236.out))) (fun hHeld => ?_)
            clear hK K
            refine nm_ (some 43) ?_
            refine pure_ (i := 3) (N := some 45) (v := ?_) (a' := ?_) (bs 40 15) rfl rfl (any_of HT_.out (by kernel_rfl)) (fun _ _ _ h => h) (Or.inl ⟨by rfl, ?_⟩) ?_ ?_
            rotate_left
            ·intro w'
             go_simp
             with_reducible rfl
            rotate_left
            ·simp only [aS, i64_w, i32_w]
             rfl
            refine pure_ (i := 4) (N := some 46) (v := ?_) (a' := ?_) (bs 40 31) rfl rfl (any_of HT_.out (by kernel_rfl)) (fun _ _ _ h => h) (Or.inl ⟨by rfl, ?_⟩) ?_ ?_
            rotate_left
            ·intro w'
             go_simp
             with_reducible rfl
            rotate_left
            ·simp only [aS, i64_w, i32_w]
             rfl
            refine pure_ (i := 5) (N := some 47) (v := ?_) (a' := ?_) (bs 40 63) rfl rfl (any_of HT_.out (by kernel_rfl)) (fun _ _ _ h => h) (Or.inl ⟨by rfl, ?_⟩) ?_ ?_
            rotate_left
            ·intro w'
             go_simp
             with_reducible rfl
            rotate_left
            ·simp only [aS, i64_w, i32_w]
             rfl
            refine pure_ (i := 6) (N := some 48) (v := ?_) (a' := ?_) (bs 40 127) rfl rfl (any_of HT_.out (by kernel_rfl)) (fun _ _ _ h => h) (Or.inl ⟨by rfl, ?_⟩) ?_ ?_
            rotate_left
            ·intro w'
             go_simp
             with_reducible rfl
            rotate_left
            ·simp only [aS, i64_w, i32_w]
             rfl
            refine pure_ (i := 7) (N := some 49) (v := ?_) (a' := ?_) (bs 40 255) rfl rfl (any_of HT_.out (by kernel_rfl)) (fun _ _ _ h => h) (Or.inl ⟨by rfl, ?_⟩) ?_ ?_
            rotate_left
            ·intro w'
             go_simp
             with_reducible rfl
            rotate_left
            ·simp only [aS, i64_w, i32_w]
             rfl
            refine pure_ (i := 9) (N := some 51) (v := ?_) (a' := ?_) (bs 40 767) rfl rfl (any_of HT_.out (by kernel_rfl)) (fun _ _ _ h => h) (Or.inl ⟨by rfl, ?_⟩) ?_ ?_
            rotate_left
            ·intro w'
             go_simp
             with_reducible rfl
            rotate_left
            ·simp only [aS, i64_w, i32_w]
             rfl
            refine one_ (i := 8) (N := some 50) (bs 40 1023) rfl rfl (one_of HT_.out (by kernel_rfl)) (by decide) (fun K hK => ?_)
            refine goes_ Try.func14 (by kernel_rfl) rfl #[.slice A0 l0.length c0, .int .i64 a1, .int .i64 a2] (by rfl) rfl rfl (by (try simp only [List.map_toArray, List.map_cons, List.map_nil]); first | done | rfl | (simp only [List.length_drop, List.length_take]; rfl)) ?_
            with_reducible refine (revoke_Is.calls kj10 _ _ l0 a1 a2 t238 _ ?side1 ?side2 A21.out).mono ?_
            (case side1 => repeat (first | exact (Kd.C_below HR0.out HB.out) | (with_reducible refine Kd.C_alloc ?_ _) | (with_reducible refine Kd.C_drewN ?_ _) | (with_reducible refine Kd.C_drew ?_)))
            (case side2 => exact HC0.out)
            rintro e w36 ⟨rfl, hb⟩
            refine ⟨_, rfl, ?_⟩
            have n0_ := Aside0.mk (Kd.R_below (by (with_reducible repeat (first | apply Kd.R_alloc | apply Kd.R_drewN | apply Kd.R_drew)); exact HO236.out) hb)
            have n1_ := Aside0.mk (below_step (by repeat (first | (with_reducible first | exact HB.out | apply below_alloc | apply pw_below_drewN | apply below_drew1) | exact HB.out)) hb)
            clear HO236
            clear HB
            have HO236 := n0_
            have HB := n1_
            clear n0_ n1_
            (try clear hb)
            (try clear hb2)
            (try clear hk)
            (try clear hi)
            refine hK.out _ _ ((own_string (P := Try.prog) Try.underlying32 Try.underlying5 Try.underlying9 (Kd.own_of_R HO236.out))) (fun hHeld => ?_)
            clear hK K
            refine nm_ (some 50) ?_
            refine pure_ (i := 10) (N := some 52) (v := ?_) (a' := ?_) (bs 40 2047) rfl rfl (any_of HT_.out (by kernel_rfl)) (fun _ _ _ h => h) (Or.inl ⟨by rfl, ?_⟩) ?_ ?_
            rotate_left
            ·intro w'
             go_simp
             with_reducible rfl
            rotate_left
            ·simp only [aS, i64_w, i32_w]
             rfl
            refine pure_ (i := 11) (N := some 53) (v := ?_) (a' := ?_) (bs 40 4095) rfl rfl (any_of HT_.out (by kernel_rfl)) (fun _ _ _ h => h) (Or.inl ⟨by rfl, ?_⟩) ?_ ?_
            rotate_left
            ·intro w'
             go_simp
             with_reducible rfl
            rotate_left
            ·simp only [aS, i64_w, i32_w]
             rfl
            refine pure_ (i := 12) (N := some 54) (v := ?_) (a' := ?_) (bs 40 8191) rfl rfl (any_of HT_.out (by kernel_rfl)) (fun _ _ _ h => h) (Or.inl ⟨by rfl, ?_⟩) ?_ ?_
            rotate_left
            ·intro w'
             go_simp
             with_reducible rfl
            rotate_left
            ·simp only [aS, i64_w, i32_w]
             rfl
            refine pure_ (i := 13) (N := some 55) (v := ?_) (a' := ?_) (bs 40 16383) rfl rfl (any_of HT_.out (by kernel_rfl)) (fun _ _ _ h => h) (Or.inl ⟨by rfl, ?_⟩) ?_ ?_
            rotate_left
            ·intro w'
             go_simp
             with_reducible rfl
            rotate_left
            ·simp only [aS, i64_w, i32_w]
             rfl
            refine pure_ (i := 14) (N := some 56) (v := ?_) (a' := ?_) (bs 40 32767) rfl rfl (any_of HT_.out (by kernel_rfl)) (fun _ _ _ h => h) (Or.inl ⟨by rfl, ?_⟩) ?_ ?_
            rotate_left
            ·intro w'
             go_simp
             with_reducible rfl
            rotate_left
            ·simp only [aS, i64_w, i32_w]
             rfl
            refine pure_ (i := 15) (N := some 57) (v := ?_) (a' := ?_) (bs 40 65535) rfl rfl (any_of HT_.out (by kernel_rfl)) (fun _ _ _ h => h) (Or.inl ⟨by rfl, ?_⟩) ?_ ?_
            rotate_left
            ·intro w'
             go_simp
             with_reducible rfl
            rotate_left
            ·simp only [aS, i64_w, i32_w]
             rfl
            refine pure_ (i := 16) (N := some 58) (v := ?_) (a' := ?_) (bs 40 131071) rfl rfl (any_of HT_.out (by kernel_rfl)) (fun _ _ _ h => h) (Or.inl ⟨by rfl, ?_⟩) ?_ ?_
            rotate_left
            ·intro w'
             go_simp
             with_reducible rfl
            rotate_left
            ·simp only [aS, i64_w, i32_w]
             rfl
            refine pure_ (i := 17) (N := some 59) (v := ?_) (a' := ?_) (bs 40 262143) rfl rfl (any_of HT_.out (by kernel_rfl)) (fun _ _ _ h => h) (Or.inl ⟨by rfl, ?_⟩) ?_ ?_
            rotate_left
            ·intro w'
             go_simp
             with_reducible rfl
            rotate_left
            ·simp only [aS, i64_w, i32_w]
             rfl
            refine pure_ (i := 18) (N := some 60) (v := ?_) (a' := ?_) (bs 40 524287) rfl rfl (any_of HT_.out (by kernel_rfl)) (fun _ _ _ h => h) (Or.inl ⟨by rfl, ?_⟩) ?_ ?_
            rotate_left
            ·intro w'
             go_simp
             with_reducible rfl
            rotate_left
            ·simp only [aS, i64_w, i32_w]
             rfl
            refine pure_ (i := 20) (N := some 62) (v := ?_) (a' := ?_) (bs 40 1572863) rfl rfl (any_of HT_.out (by kernel_rfl)) (fun _ _ _ h => h) (Or.inl ⟨by rfl, ?_⟩) ?_ ?_
            rotate_left
            ·intro w'
             go_simp
             with_reducible rfl
            rotate_left
            ·simp only [aS, i64_w, i32_w]
             rfl
            refine take_ (i := 19) (N := some 61) (v := ?_) (a' := ?_) (bs 40 2097151) rfl rfl (take_ofW HT_.out HW_.out (by kernel_rfl)) (fun _ _ _ h => h) (Or.inl ⟨by rfl, ?_⟩) hHeld ?_ ?_
            rotate_left
            ·intro w' s0
             go_simp
             with_reducible rfl
            rotate_left
            ·simp only [aS, i64_w, i32_w]
             rfl
            refine one_ (i := 21) (N := some 63) (bs 40 4194303) rfl rfl (one_of HT_.out (by kernel_rfl)) (by decide) (fun K hK => ?_)
            refine goes_ Try.func15 (by kernel_rfl) rfl #[.slice A0 l0.length c0] (by rfl) rfl rfl (by (try simp only [List.map_toArray, List.map_cons, List.map_nil]); first | done | rfl | (simp only [List.length_drop, List.length_take]; rfl)) ?_
            with_reducible refine (clapperref11_Bytes.calls kj10 _ _ l0 t240 _ ?side1 ?side2 A27.out).mono ?_
            (case side1 => repeat (first | exact (Kd.C_below HR0.out HB.out) | (with_reducible refine Kd.C_alloc ?_ _) | (with_reducible refine Kd.C_drewN ?_ _) | (with_reducible refine Kd.C_drew ?_)))
            (case side2 => exact HC0.out)
            rintro e w37 ⟨rfl, hb⟩
            refine ⟨_, rfl, ?_⟩
            have n0_ := Aside0.mk (Kd.R_below (by (with_reducible repeat (first | apply Kd.R_alloc | apply Kd.R_drewN | apply Kd.R_drew)); exact HO236.out) hb)
            have n1_ := Aside0.mk (below_step (by repeat (first | (with_reducible first | exact HB.out | apply below_alloc | apply pw_below_drewN | apply below_drew1) | exact HB.out)) hb)
            clear HO236
            clear HB
            have HO236 := n0_
            have HB := n1_
            clear n0_ n1_
            (try clear hb)
            (try clear hb2)
            (try clear hk)
            (try clear hi)
            refine hK.out _ _ ((own_string (P := Try.prog) Try.underlying32 Try.underlying5 Try.underlying9 (Kd.own_of_R HO236.out))) (fun hHeld => ?_)
            clear hK K
            refine nm_ (some 63) ?_
            refine pure_ (i := 22) (N := some 64) (v := ?_) (a' := ?_) (bs 40 8388607) rfl rfl (any_of HT_.out (by kernel_rfl)) (fun _ _ _ h => h) (Or.inl ⟨by rfl, ?_⟩) ?_ ?_
            rotate_left
            ·intro w'
             go_simp
             with_reducible rfl
            rotate_left
            ·simp only [aS, i64_w, i32_w]
             rfl
            refine pure_ (i := 23) (N := some 65) (v := ?_) (a' := ?_) (bs 40 16777215) rfl rfl (any_of HT_.out (by kernel_rfl)) (fun _ _ _ h => h) (Or.inl ⟨by rfl, ?_⟩) ?_ ?_
            rotate_left
            ·intro w'
             go_simp
             with_reducible rfl
            rotate_left
            ·simp only [aS, i64_w, i32_w]
             rfl
            refine pure_ (i := 24) (N := some 66) (v := ?_) (a' := ?_) (bs 40 33554431) rfl rfl (any_of HT_.out (by kernel_rfl)) (fun _ _ _ h => h) (Or.inl ⟨by rfl, ?_⟩) ?_ ?_
            rotate_left
            ·intro w'
             go_simp
             with_reducible rfl
            rotate_left
            ·simp only [aS, i64_w, i32_w]
             rfl
            refine pure_ (i := 25) (N := some 67) (v := ?_) (a' := ?_) (bs 40 67108863) rfl rfl (any_of HT_.out (by kernel_rfl)) (fun _ _ _ h => h) (Or.inl ⟨by rfl, ?_⟩) ?_ ?_
            rotate_left
            ·intro w'
             go_simp
             with_reducible rfl
            rotate_left
            ·simp only [aS, i64_w, i32_w]
             rfl
            refine pure_ (i := 26) (N := some 68) (v := ?_) (a' := ?_) (bs 40 134217727) rfl rfl (any_of HT_.out (by kernel_rfl)) (fun _ _ _ h => h) (Or.inl ⟨by rfl, ?_⟩) ?_ ?_
            rotate_left
            ·intro w'
             go_simp
             with_reducible rfl
            rotate_left
            ·simp only [aS, i64_w, i32_w]
             rfl
            refine pure_ (i := 27) (N := some 69) (v := undef) (a' := ?_) (bs 40 268435455) rfl rfl (any_of HT_.out (by kernel_rfl)) (fun _ _ _ h => h) (Or.inr ⟨by rfl, rfl⟩) ?_ ?_
            rotate_left
            ·simp only [aS, i64_w, i32_w]
             rfl
            refine pure_ (i := 28) (N := some 70) (v := undef) (a' := ?_) (bs 40 536870911) rfl rfl (any_of HT_.out (by kernel_rfl)) (fun _ _ _ h => h) (Or.inr ⟨by rfl, rfl⟩) ?_ ?_
            rotate_left
            ·simp only [aS, i64_w, i32_w]
             rfl
            refine pure_ (i := 29) (N := some 71) (v := undef) (a' := ?_) (bs 40 1073741823) rfl rfl (any_of HT_.out (by kernel_rfl)) (fun _ _ _ h => h) (Or.inr ⟨by rfl, rfl⟩) ?_ ?_
            rotate_left
            ·simp only [aS, i64_w, i32_w]
             rfl
            refine pure_ (i := 30) (N := some 72) (v := undef) (a' := ?_) (bs 40 2147483647) rfl rfl (any_of HT_.out (by kernel_rfl)) (fun _ _ _ h => h) (Or.inr ⟨by rfl, rfl⟩) ?_ ?_
            rotate_left
            ·simp only [aS, i64_w, i32_w]
             rfl
            refine pure_ (i := 31) (N := some 73) (v := undef) (a' := ?_) (bs 40 4294967295) rfl rfl (any_of HT_.out (by kernel_rfl)) (fun _ _ _ h => h) (Or.inr ⟨by rfl, rfl⟩) ?_ ?_
            rotate_left
            ·simp only [aS, i64_w, i32_w]
             rfl
            refine pure_ (i := 32) (N := some 74) (v := undef) (a' := ?_) (bs 40 8589934591) rfl rfl (any_of HT_.out (by kernel_rfl)) (fun _ _ _ h => h) (Or.inr ⟨by rfl, rfl⟩) ?_ ?_
            rotate_left
            ·simp only [aS, i64_w, i32_w]
             rfl
            refine pure_ (i := 33) (N := some 75) (v := undef) (a' := ?_) (bs 40 17179869183) rfl rfl (any_of HT_.out (by kernel_rfl)) (fun _ _ _ h => h) (Or.inr ⟨by rfl, rfl⟩) ?_ ?_
            rotate_left
            ·simp only [aS, i64_w, i32_w]
             rfl
            refine pure_ (i := 34) (N := some 76) (v := undef) (a' := ?_) (bs 40 34359738367) rfl rfl (any_of HT_.out (by kernel_rfl)) (fun _ _ _ h => h) (Or.inr ⟨by rfl, rfl⟩) ?_ ?_
            rotate_left
            ·simp only [aS, i64_w, i32_w]
             rfl
            refine pure_ (i := 35) (N := some 77) (v := undef) (a' := ?_) (bs 40 68719476735) rfl rfl (any_of HT_.out (by kernel_rfl)) (fun _ _ _ h => h) (Or.inr ⟨by rfl, rfl⟩) ?_ ?_
            rotate_left
            ·simp only [aS, i64_w, i32_w]
             rfl
            refine pure_ (i := 36) (N := some 78) (v := undef) (a' := ?_) (bs 40 137438953471) rfl rfl (any_of HT_.out (by kernel_rfl)) (fun _ _ _ h => h) (Or.inr ⟨by rfl, rfl⟩) ?_ ?_
            rotate_left
            ·simp only [aS, i64_w, i32_w]
             rfl
            refine pure_ (i := 37) (N := some 79) (v := undef) (a' := ?_) (bs 40 274877906943) rfl rfl (any_of HT_.out (by kernel_rfl)) (fun _ _ _ h => h) (Or.inr ⟨by rfl, rfl⟩) ?_ ?_
            rotate_left
            ·simp only [aS, i64_w, i32_w]
             rfl
            refine pure_ (i := 38) (N := some 80) (v := undef) (a' := ?_) (bs 40 549755813887) rfl rfl (any_of HT_.out (by kernel_rfl)) (fun _ _ _ h => h) (Or.inr ⟨by rfl, rfl⟩) ?_ ?_
            rotate_left
            ·simp only [aS, i64_w, i32_w]
             rfl
            refine pure_ (i := 39) (N := some 81) (v := ?_) (a' := ?_) (bs 40 1099511627775) rfl rfl (any_of HT_.out (by kernel_rfl)) (fun _ _ _ h => h) (Or.inl ⟨by rfl, ?_⟩) ?_ ?_
            rotate_left
            ·intro w'
             go_simp
             with_reducible rfl
            rotate_left
            ·simp only [aS, i64_w, i32_w]
             rfl
            refine done_ (done_of HT_.out (by kernel_rfl)) ?_
            try go_wp2
            go_meet
            case rel => exact ⟨_, (true), (by first | rfl | (simp; done) | (simp [*]; done)), H', ⟨by have := HJ5.out; have := HJ10.out; first | omega | exact Nat.le_refl _⟩, ⟨by repeat (first | (with_reducible first | exact HB.out | apply below_alloc | apply pw_below_drewN | apply below_drew1) | exact HB.out)⟩⟩
          ·have H1 : (clapperlaw11_RevokeTells.j2 kj10 l3 t230 true) = some r := by rw [if_neg (show ¬ (some q239).isNone = true by simp)] at H; exact H
           clear H
           have H := H1
           clear H1
           try simp only [errW_none, errW_some]
           have H' := Aside0.mk H
           clear H
           try go_wp2
           have n0_ := Aside0.mk (Kd.R_drew HO236.out)
           have n1_ := Aside0.mk (below_drew1 HB.out)
           clear HO236
           clear HB
           have HO236 := n0_
           have HB := n1_
           clear n0_ n1_
           refine start_ (n := 40) (S := fun w' => True) (ds := []) (bs 40 0) (by kernel_rfl) rfl rfl trivial (fun hHeld => ?_); refine with_tabW clapperlaw11_RevokeTells.tab7 clapperlaw11_RevokeTells.bits7 (fun HT_ HW_ => ?_)
           generalize w16.drew = w39 at HO236 HB hHeld ⊢
           refine pure_ (i := 0) (N := some 42) (v := ?_) (a' := ?_) (bs 40 1) rfl rfl (any_of HT_.out (by kernel_rfl)) (fun _ _ _ h => h) (Or.inl ⟨by rfl, ?_⟩) ?_ ?_
           rotate_left
           ·intro w'
            go_simp
            with_reducible rfl
           rotate_left
           ·simp only [aS, i64_w, i32_w]
            rfl
           refine pure_ (i := 2) (N := some 44) (v := ?_) (a' := ?_) (bs 40 5) rfl rfl (any_of HT_.out (by kernel_rfl)) (fun _ _ _ h => h) (Or.inl ⟨by rfl, ?_⟩) ?_ ?_
           rotate_left
           ·intro w'
            go_simp
            with_reducible rfl
           rotate_left
           ·simp only [aS, i64_w, i32_w]
            rfl
           refine one_ (i := 1) (N := some 43) (bs 40 7) rfl rfl (one_of HT_.out (by kernel_rfl)) (by decide) (fun K hK => ?_)
           refine goes_ Try.func13 (by kernel_rfl) rfl #[.slice A0 l0.length c0] (by rfl) rfl rfl (by (try simp only [List.map_toArray, List.map_cons, List.map_nil]); first | done | rfl | (simp only [List.length_drop, List.length_take]; rfl)) ?_
           with_reducible refine (revoke_May.calls kj10 _ _ l0 t237 _ ?side1 ?side2 A17.out).mono ?_
           (case side1 => repeat (first | exact (Kd.C_below HR0.out HB.out) | (with_reducible refine Kd.C_alloc ?_ _) | (with_reducible refine Kd.C_drewN ?_ _) | (with_reducible refine Kd.C_drew ?_)))
           (case side2 => exact HC0.out)
           rintro e w40 ⟨rfl, hb⟩
           refine ⟨_, rfl, ?_⟩
           have n0_ := Aside0.mk (Kd.R_below (by (with_reducible repeat (first | apply Kd.R_alloc | apply Kd.R_drewN | apply Kd.R_drew)); exact HO236.out) hb)
           have n1_ := Aside0.mk (below_step (by repeat (first | (with_reducible first | exact HB.out | apply below_alloc | apply pw_below_drewN | apply below_drew1) | exact HB.out)) hb)
           clear HO236
           clear HB
           have HO236 := n0_
           have HB := n1_
           clear n0_ n1_
           (try clear hb)
           (try clear hb2)
           (try clear hk)
           (try clear hi)
           refine hK.out _ _ trivial (fun hHeld => ?_)
           clear hK K
           refine nm_ (some 43) ?_
           refine pure_ (i := 3) (N := some 45) (v := ?_) (a' := ?_) (bs 40 15) rfl rfl (any_of HT_.out (by kernel_rfl)) (fun _ _ _ h => h) (Or.inl ⟨by rfl, ?_⟩) ?_ ?_
           rotate_left
           ·intro w'
            go_simp
            with_reducible rfl
           rotate_left
           ·simp only [aS, i64_w, i32_w]
            rfl
           refine pure_ (i := 4) (N := some 46) (v := ?_) (a' := ?_) (bs 40 31) rfl rfl (any_of HT_.out (by kernel_rfl)) (fun _ _ _ h => h) (Or.inl ⟨by rfl, ?_⟩) ?_ ?_
           rotate_left
           ·intro w'
            go_simp
            with_reducible rfl
           rotate_left
           ·simp only [aS, i64_w, i32_w]
            rfl
           refine pure_ (i := 5) (N := some 47) (v := ?_) (a' := ?_) (bs 40 63) rfl rfl (any_of HT_.out (by kernel_rfl)) (fun _ _ _ h => h) (Or.inl ⟨by rfl, ?_⟩) ?_ ?_
           rotate_left
           ·intro w'
            go_simp
            with_reducible rfl
           rotate_left
           ·simp only [aS, i64_w, i32_w]
            rfl
           refine pure_ (i := 6) (N := some 48) (v := ?_) (a' := ?_) (bs 40 127) rfl rfl (any_of HT_.out (by kernel_rfl)) (fun _ _ _ h => h) (Or.inl ⟨by rfl, ?_⟩) ?_ ?_
           rotate_left
           ·intro w'
            go_simp
            with_reducible rfl
           rotate_left
           ·simp only [aS, i64_w, i32_w]
            rfl
           refine pure_ (i := 7) (N := some 49) (v := ?_) (a' := ?_) (bs 40 255) rfl rfl (any_of HT_.out (by kernel_rfl)) (fun _ _ _ h => h) (Or.inl ⟨by rfl, ?_⟩) ?_ ?_
           rotate_left
           ·intro w'
            go_simp
            with_reducible rfl
           rotate_left
           ·simp only [aS, i64_w, i32_w]
            rfl
           refine pure_ (i := 9) (N := some 51) (v := ?_) (a' := ?_) (bs 40 767) rfl rfl (any_of HT_.out (by kernel_rfl)) (fun _ _ _ h => h) (Or.inl ⟨by rfl, ?_⟩) ?_ ?_
           rotate_left
           ·intro w'
            go_simp
            with_reducible rfl
           rotate_left
           ·simp only [aS, i64_w, i32_w]
            rfl
           refine one_ (i := 8) (N := some 50) (bs 40 1023) rfl rfl (one_of HT_.out (by kernel_rfl)) (by decide) (fun K hK => ?_)
           refine goes_ Try.func14 (by kernel_rfl) rfl #[.slice A0 l0.length c0, .int .i64 a1, .int .i64 a2] (by rfl) rfl rfl (by (try simp only [List.map_toArray, List.map_cons, List.map_nil]); first | done | rfl | (simp only [List.length_drop, List.length_take]; rfl)) ?_
           with_reducible refine (revoke_Is.calls kj10 _ _ l0 a1 a2 t238 _ ?side1 ?side2 A21.out).mono ?_
           (case side1 => repeat (first | exact (Kd.C_below HR0.out HB.out) | (with_reducible refine Kd.C_alloc ?_ _) | (with_reducible refine Kd.C_drewN ?_ _) | (with_reducible refine Kd.C_drew ?_)))
           (case side2 => exact HC0.out)
           rintro e w41 ⟨rfl, hb⟩
           refine ⟨_, rfl, ?_⟩
           have n0_ := Aside0.mk (Kd.R_below (by (with_reducible repeat (first | apply Kd.R_alloc | apply Kd.R_drewN | apply Kd.R_drew)); exact HO236.out) hb)
           have n1_ := Aside0.mk (below_step (by repeat (first | (with_reducible first | exact HB.out | apply below_alloc | apply pw_below_drewN | apply below_drew1) | exact HB.out)) hb)
           clear HO236
           clear HB
           have HO236 := n0_
           have HB := n1_
           clear n0_ n1_
           (try clear hb)
           (try clear hb2)
           (try clear hk)
           (try clear hi)
           refine hK.out _ _ trivial (fun hHeld => ?_)
           clear hK K
           refine nm_ (some 50) ?_
           refine pure_ (i := 10) (N := some 52) (v := ?_) (a' := ?_) (bs 40 2047) rfl rfl (any_of HT_.out (by kernel_rfl)) (fun _ _ _ h => h) (Or.inl ⟨by rfl, ?_⟩) ?_ ?_
           rotate_left
           ·intro w'
            go_simp
            with_reducible rfl
           rotate_left
           ·simp only [aS, i64_w, i32_w]
            rfl
           refine pure_ (i := 11) (N := some 53) (v := ?_) (a' := ?_) (bs 40 4095) rfl rfl (any_of HT_.out (by kernel_rfl)) (fun _ _ _ h => h) (Or.inl ⟨by rfl, ?_⟩) ?_ ?_
           rotate_left
           ·intro w'
            go_simp
            with_reducible rfl
           rotate_left
           ·simp only [aS, i64_w, i32_w]
            rfl
           refine pure_ (i := 12) (N := some 54) (v := ?_) (a' := ?_) (bs 40 8191) rfl rfl (any_of HT_.out (by kernel_rfl)) (fun _ _ _ h => h) (Or.inl ⟨by rfl, ?_⟩) ?_ ?_
           rotate_left
           ·intro w'
            go_simp
            with_reducible rfl
           rotate_left
           ·simp only [aS, i64_w, i32_w]
            rfl
           refine pure_ (i := 13) (N := some 55) (v := ?_) (a' := ?_) (bs 40 16383) rfl rfl (any_of HT_.out (by kernel_rfl)) (fun _ _ _ h => h) (Or.inl ⟨by rfl, ?_⟩) ?_ ?_
           rotate_left
           ·intro w'
            go_simp
            with_reducible rfl
           rotate_left
           ·simp only [aS, i64_w, i32_w]
            rfl
           refine pure_ (i := 14) (N := some 56) (v := ?_) (a' := ?_) (bs 40 32767) rfl rfl (any_of HT_.out (by kernel_rfl)) (fun _ _ _ h => h) (Or.inl ⟨by rfl, ?_⟩) ?_ ?_
           rotate_left
           ·intro w'
            go_simp
            with_reducible rfl
           rotate_left
           ·simp only [aS, i64_w, i32_w]
            rfl
           refine pure_ (i := 15) (N := some 57) (v := ?_) (a' := ?_) (bs 40 65535) rfl rfl (any_of HT_.out (by kernel_rfl)) (fun _ _ _ h => h) (Or.inl ⟨by rfl, ?_⟩) ?_ ?_
           rotate_left
           ·intro w'
            go_simp
            with_reducible rfl
           rotate_left
           ·simp only [aS, i64_w, i32_w]
            rfl
           refine pure_ (i := 16) (N := some 58) (v := ?_) (a' := ?_) (bs 40 131071) rfl rfl (any_of HT_.out (by kernel_rfl)) (fun _ _ _ h => h) (Or.inl ⟨by rfl, ?_⟩) ?_ ?_
           rotate_left
           ·intro w'
            go_simp
            with_reducible rfl
           rotate_left
           ·simp only [aS, i64_w, i32_w]
            rfl
           refine pure_ (i := 17) (N := some 59) (v := ?_) (a' := ?_) (bs 40 262143) rfl rfl (any_of HT_.out (by kernel_rfl)) (fun _ _ _ h => h) (Or.inl ⟨by rfl, ?_⟩) ?_ ?_
           rotate_left
           ·intro w'
            go_simp
            with_reducible rfl
           rotate_left
           ·simp only [aS, i64_w, i32_w]
            rfl
           refine pure_ (i := 18) (N := some 60) (v := undef) (a' := ?_) (bs 40 524287) rfl rfl (any_of HT_.out (by kernel_rfl)) (fun _ _ _ h => h) (Or.inr ⟨by rfl, rfl⟩) ?_ ?_
           rotate_left
           ·simp only [aS, i64_w, i32_w]
            rfl
           refine pure_ (i := 19) (N := some 61) (v := undef) (a' := ?_) (bs 40 1048575) rfl rfl (any_of HT_.out (by kernel_rfl)) (fun _ _ _ h => h) (Or.inr ⟨by rfl, rfl⟩) ?_ ?_
           rotate_left
           ·simp only [aS, i64_w, i32_w]
            rfl
           refine pure_ (i := 20) (N := some 62) (v := undef) (a' := ?_) (bs 40 2097151) rfl rfl (any_of HT_.out (by kernel_rfl)) (fun _ _ _ h => h) (Or.inr ⟨by rfl, rfl⟩) ?_ ?_
           rotate_left
           ·simp only [aS, i64_w, i32_w]
            rfl
           refine pure_ (i := 21) (N := some 63) (v := undef) (a' := ?_) (bs 40 4194303) rfl rfl (any_of HT_.out (by kernel_rfl)) (fun _ _ _ h => h) (Or.inr ⟨by rfl, rfl⟩) ?_ ?_
           rotate_left
           ·simp only [aS, i64_w, i32_w]
            rfl
           refine pure_ (i := 22) (N := some 64) (v := undef) (a' := ?_) (bs 40 8388607) rfl rfl (any_of HT_.out (by kernel_rfl)) (fun _ _ _ h => h) (Or.inr ⟨by rfl, rfl⟩) ?_ ?_
           rotate_left
           ·simp only [aS, i64_w, i32_w]
            rfl
           refine pure_ (i := 23) (N := some 65) (v := ?_) (a' := ?_) (bs 40 16777215) rfl rfl (any_of HT_.out (by kernel_rfl)) (fun _ _ _ h => h) (Or.inl ⟨by rfl, ?_⟩) ?_ ?_
           rotate_left
           ·intro w'
            go_simp
            with_reducible rfl
           rotate_left
           ·simp only [aS, i64_w, i32_w]
            rfl
           refine pure_ (i := 24) (N := some 66) (v := ?_) (a' := ?_) (bs 40 33554431) rfl rfl (any_of HT_.out (by kernel_rfl)) (fun _ _ _ h => h) (Or.inl ⟨by rfl, ?_⟩) ?_ ?_
           rotate_left
           ·intro w'
            go_simp
            with_reducible rfl
           rotate_left
           ·simp only [aS, i64_w, i32_w]
            rfl
           refine pure_ (i := 25) (N := some 67) (v := ?_) (a' := ?_) (bs 40 67108863) rfl rfl (any_of HT_.out (by kernel_rfl)) (fun _ _ _ h => h) (Or.inl ⟨by rfl, ?_⟩) ?_ ?_
           rotate_left
           ·intro w'
            go_simp
            with_reducible rfl
           rotate_left
           ·simp only [aS, i64_w, i32_w]
            rfl
           refine pure_ (i := 26) (N := some 68) (v := ?_) (a' := ?_) (bs 40 134217727) rfl rfl (any_of HT_.out (by kernel_rfl)) (fun _ _ _ h => h) (Or.inl ⟨by rfl, ?_⟩) ?_ ?_
           rotate_left
           ·intro w'
            go_simp
            with_reducible rfl
           rotate_left
           ·simp only [aS, i64_w, i32_w]
            rfl
           refine pure_ (i := 27) (N := some 69) (v := undef) (a' := ?_) (bs 40 268435455) rfl rfl (any_of HT_.out (by kernel_rfl)) (fun _ _ _ h => h) (Or.inr ⟨by rfl, rfl⟩) ?_ ?_
           rotate_left
           ·simp only [aS, i64_w, i32_w]
            rfl
           refine pure_ (i := 28) (N := some 70) (v := undef) (a' := ?_) (bs 40 536870911) rfl rfl (any_of HT_.out (by kernel_rfl)) (fun _ _ _ h => h) (Or.inr ⟨by rfl, rfl⟩) ?_ ?_
           rotate_left
           ·simp only [aS, i64_w, i32_w]
            rfl
           refine pure_ (i := 29) (N := some 71) (v := undef) (a' := ?_) (bs 40 1073741823) rfl rfl (any_of HT_.out (by kernel_rfl)) (fun _ _ _ h => h) (Or.inr ⟨by rfl, rfl⟩) ?_ ?_
           rotate_left
           ·simp only [aS, i64_w, i32_w]
            rfl
           refine pure_ (i := 30) (N := some 72) (v := undef) (a' := ?_) (bs 40 2147483647) rfl rfl (any_of HT_.out (by kernel_rfl)) (fun _ _ _ h => h) (Or.inr ⟨by rfl, rfl⟩) ?_ ?_
           rotate_left
           ·simp only [aS, i64_w, i32_w]
            rfl
           refine pure_ (i := 31) (N := some 73) (v := undef) (a' := ?_) (bs 40 4294967295) rfl rfl (any_of HT_.out (by kernel_rfl)) (fun _ _ _ h => h) (Or.inr ⟨by rfl, rfl⟩) ?_ ?_
           rotate_left
           ·simp only [aS, i64_w, i32_w]
            rfl
           refine pure_ (i := 32) (N := some 74) (v := undef) (a' := ?_) (bs 40 8589934591) rfl rfl (any_of HT_.out (by kernel_rfl)) (fun _ _ _ h => h) (Or.inr ⟨by rfl, rfl⟩) ?_ ?_
           rotate_left
           ·simp only [aS, i64_w, i32_w]
            rfl
           refine pure_ (i := 33) (N := some 75) (v := undef) (a' := ?_) (bs 40 17179869183) rfl rfl (any_of HT_.out (by kernel_rfl)) (fun _ _ _ h => h) (Or.inr ⟨by rfl, rfl⟩) ?_ ?_
           rotate_left
           ·simp only [aS, i64_w, i32_w]
            rfl
           refine pure_ (i := 34) (N := some 76) (v := undef) (a' := ?_) (bs 40 34359738367) rfl rfl (any_of HT_.out (by kernel_rfl)) (fun _ _ _ h => h) (Or.inr ⟨by rfl, rfl⟩) ?_ ?_
           rotate_left
           ·simp only [aS, i64_w, i32_w]
            rfl
           refine pure_ (i := 35) (N := some 77) (v := undef) (a' := ?_) (bs 40 68719476735) rfl rfl (any_of HT_.out (by kernel_rfl)) (fun _ _ _ h => h) (Or.inr ⟨by rfl, rfl⟩) ?_ ?_
           rotate_left
           ·simp only [aS, i64_w, i32_w]
            rfl
           refine pure_ (i := 36) (N := some 78) (v := undef) (a' := ?_) (bs 40 137438953471) rfl rfl (any_of HT_.out (by kernel_rfl)) (fun _ _ _ h => h) (Or.inr ⟨by rfl, rfl⟩) ?_ ?_
           rotate_left
           ·simp only [aS, i64_w, i32_w]
            rfl
           refine pure_ (i := 37) (N := some 79) (v := undef) (a' := ?_) (bs 40 274877906943) rfl rfl (any_of HT_.out (by kernel_rfl)) (fun _ _ _ h => h) (Or.inr ⟨by rfl, rfl⟩) ?_ ?_
           rotate_left
           ·simp only [aS, i64_w, i32_w]
            rfl
           refine pure_ (i := 38) (N := some 80) (v := undef) (a' := ?_) (bs 40 549755813887) rfl rfl (any_of HT_.out (by kernel_rfl)) (fun _ _ _ h => h) (Or.inr ⟨by rfl, rfl⟩) ?_ ?_
           rotate_left
           ·simp only [aS, i64_w, i32_w]
            rfl
           refine pure_ (i := 39) (N := some 81) (v := ?_) (a' := ?_) (bs 40 1099511627775) rfl rfl (any_of HT_.out (by kernel_rfl)) (fun _ _ _ h => h) (Or.inl ⟨by rfl, ?_⟩) ?_ ?_
           rotate_left
           ·intro w'
            go_simp
            with_reducible rfl
           rotate_left
           ·simp only [aS, i64_w, i32_w]
            rfl
           refine done_ (done_of HT_.out (by kernel_rfl)) ?_
           try go_wp2
           go_meet
           case rel => exact ⟨_, (true), (by first | rfl | (simp; done) | (simp [*]; done)), H', ⟨by have := HJ5.out; have := HJ10.out; first | omega | exact Nat.le_refl _⟩, ⟨by repeat (first | (with_reducible first | exact HB.out | apply below_alloc | apply pw_below_drewN | apply below_drew1) | exact HB.out)⟩⟩
         ·replace c26 := Bool.eq_false_iff.mpr c26
          subst c26
          have H1 : (if t234.isNone = true then (clapperlaw11_RevokeTells.j2 kj10 l3 t230 true) else (if (t234.getD 0) = 1 then (clapperlaw11_RevokeTells.j2 kj10 l3 t230 ((t233.length : Int) != 0)) else (clapperlaw11_RevokeTells.j2 kj10 l3 t230 true))) = some r := by rw [if_neg (show ¬ (false = true) by decide)] at H; exact H
          clear H
          have H := H1
          clear H1
          rcases t234 with _ | q241
          ·have H1 : (clapperlaw11_RevokeTells.j2 kj10 l3 t230 true) = some r := by rw [if_pos (show (none : Option Int).isNone = true by rfl)] at H; exact H
           clear H
           have H := H1
           clear H1
           try simp only [errW_none, errW_some]
           have H' := Aside0.mk H
           clear H
           try go_wp2
           have n0_ := Aside0.mk (Kd.R_drew HO236.out)
           have n1_ := Aside0.mk (below_drew1 HB.out)
           clear HO236
           clear HB
           have HO236 := n0_
           have HB := n1_
           clear n0_ n1_
           refine start_ (n := 40) (S := fun w' => True) (ds := []) (bs 40 0) (by kernel_rfl) rfl rfl trivial (fun hHeld => ?_); refine with_tabW clapperlaw11_RevokeTells.tab7 clapperlaw11_RevokeTells.bits7 (fun HT_ HW_ => ?_)
           generalize w16.drew = w42 at HO236 HB hHeld ⊢
           refine pure_ (i := 0) (N := some 42) (v := ?_) (a' := ?_) (bs 40 1) rfl rfl (any_of HT_.out (by kernel_rfl)) (fun _ _ _ h => h) (Or.inl ⟨by rfl, ?_⟩) ?_ ?_
           rotate_left
           ·intro w'
            go_simp
            with_reducible rfl
           rotate_left
           ·simp only [aS, i64_w, i32_w]
            rfl
           refine pure_ (i := 2) (N := some 44) (v := ?_) (a' := ?_) (bs 40 5) rfl rfl (any_of HT_.out (by kernel_rfl)) (fun _ _ _ h => h) (Or.inl ⟨by rfl, ?_⟩) ?_ ?_
           rotate_left
           ·intro w'
            go_simp
            with_reducible rfl
           rotate_left
           ·simp only [aS, i64_w, i32_w]
            rfl
           refine one_ (i := 1) (N := some 43) (bs 40 7) rfl rfl (one_of HT_.out (by kernel_rfl)) (by decide) (fun K hK => ?_)
           refine goes_ Try.func13 (by kernel_rfl) rfl #[.slice A0 l0.length c0] (by rfl) rfl rfl (by (try simp only [List.map_toArray, List.map_cons, List.map_nil]); first | done | rfl | (simp only [List.length_drop, List.length_take]; rfl)) ?_
           with_reducible refine (revoke_May.calls kj10 _ _ l0 t237 _ ?side1 ?side2 A17.out).mono ?_
           (case side1 => repeat (first | exact (Kd.C_below HR0.out HB.out) | (with_reducible refine Kd.C_alloc ?_ _) | (with_reducible refine Kd.C_drewN ?_ _) | (with_reducible refine Kd.C_drew ?_)))
           (case side2 => exact HC0.out)
           rintro e w43 ⟨rfl, hb⟩
           refine ⟨_, rfl, ?_⟩
           have n0_ := Aside0.mk (Kd.R_below (by (with_reducible repeat (first | apply Kd.R_alloc | apply Kd.R_drewN | apply Kd.R_drew)); exact HO236.out) hb)
           have n1_ := Aside0.mk (below_step (by repeat (first | (with_reducible first | exact HB.out | apply below_alloc | apply pw_below_drewN | apply below_drew1) | exact HB.out)) hb)
           clear HO236
           clear HB
           have HO236 := n0_
           have HB := n1_
           clear n0_ n1_
           (try clear hb)
           (try clear hb2)
           (try clear hk)
           (try clear hi)
           refine hK.out _ _ trivial (fun hHeld => ?_)
           clear hK K
           refine nm_ (some 43) ?_
           refine pure_ (i := 3) (N := some 45) (v := ?_) (a' := ?_) (bs 40 15) rfl rfl (any_of HT_.out (by kernel_rfl)) (fun _ _ _ h => h) (Or.inl ⟨by rfl, ?_⟩) ?_ ?_
           rotate_left
           ·intro w'
            go_simp
            with_reducible rfl
           rotate_left
           ·simp only [aS, i64_w, i32_w]
            rfl
           refine pure_ (i := 4) (N := some 46) (v := ?_) (a' := ?_) (bs 40 31) rfl rfl (any_of HT_.out (by kernel_rfl)) (fun _ _ _ h => h) (Or.inl ⟨by rfl, ?_⟩) ?_ ?_
           rotate_left
           ·intro w'
            go_simp
            with_reducible rfl
           rotate_left
           ·simp only [aS, i64_w, i32_w]
            rfl
           refine pure_ (i := 5) (N := some 47) (v := ?_) (a' := ?_) (bs 40 63) rfl rfl (any_of HT_.out (by kernel_rfl)) (fun _ _ _ h => h) (Or.inl ⟨by rfl, ?_⟩) ?_ ?_
           rotate_left
           ·intro w'
            go_simp
            with_reducible rfl
           rotate_left
           ·simp only [aS, i64_w, i32_w]
            rfl
           refine pure_ (i := 6) (N := some 48) (v := ?_) (a' := ?_) (bs 40 127) rfl rfl (any_of HT_.out (by kernel_rfl)) (fun _ _ _ h => h) (Or.inl ⟨by rfl, ?_⟩) ?_ ?_
           rotate_left
           ·intro w'
            go_simp
            with_reducible rfl
           rotate_left
           ·simp only [aS, i64_w, i32_w]
            rfl
           refine pure_ (i := 7) (N := some 49) (v := ?_) (a' := ?_) (bs 40 255) rfl rfl (any_of HT_.out (by kernel_rfl)) (fun _ _ _ h => h) (Or.inl ⟨by rfl, ?_⟩) ?_ ?_
           rotate_left
           ·intro w'
            go_simp
            with_reducible rfl
           rotate_left
           ·simp only [aS, i64_w, i32_w]
            rfl
           refine pure_ (i := 9) (N := some 51) (v := ?_) (a' := ?_) (bs 40 767) rfl rfl (any_of HT_.out (by kernel_rfl)) (fun _ _ _ h => h) (Or.inl ⟨by rfl, ?_⟩) ?_ ?_
           rotate_left
           ·intro w'
            go_simp
            with_reducible rfl
           rotate_left
           ·simp only [aS, i64_w, i32_w]
            rfl
           refine one_ (i := 8) (N := some 50) (bs 40 1023) rfl rfl (one_of HT_.out (by kernel_rfl)) (by decide) (fun K hK => ?_)
           refine goes_ Try.func14 (by kernel_rfl) rfl #[.slice A0 l0.length c0, .int .i64 a1, .int .i64 a2] (by rfl) rfl rfl (by (try simp only [List.map_toArray, List.map_cons, List.map_nil]); first | done | rfl | (simp only [List.length_drop, List.length_take]; rfl)) ?_
           with_reducible refine (revoke_Is.calls kj10 _ _ l0 a1 a2 t238 _ ?side1 ?side2 A21.out).mono ?_
           (case side1 => repeat (first | exact (Kd.C_below HR0.out HB.out) | (with_reducible refine Kd.C_alloc ?_ _) | (with_reducible refine Kd.C_drewN ?_ _) | (with_reducible refine Kd.C_drew ?_)))
           (case side2 => exact HC0.out)
           rintro e w44 ⟨rfl, hb⟩
           refine ⟨_, rfl, ?_⟩
           have n0_ := Aside0.mk (Kd.R_below (by (with_reducible repeat (first | apply Kd.R_alloc | apply Kd.R_drewN | apply Kd.R_drew)); exact HO236.out) hb)
           have n1_ := Aside0.mk (below_step (by repeat (first | (with_reducible first | exact HB.out | apply below_alloc | apply pw_below_drewN | apply below_drew1) | exact HB.out)) hb)
           clear HO236
           clear HB
           have HO236 := n0_
           have HB := n1_
           clear n0_ n1_
           (try clear hb)
           (try clear hb2)
           (try clear hk)
           (try clear hi)
           refine hK.out _ _ trivial (fun hHeld => ?_)
           clear hK K
           refine nm_ (some 50) ?_
           refine pure_ (i := 10) (N := some 52) (v := ?_) (a' := ?_) (bs 40 2047) rfl rfl (any_of HT_.out (by kernel_rfl)) (fun _ _ _ h => h) (Or.inl ⟨by rfl, ?_⟩) ?_ ?_
           rotate_left
           ·intro w'
            go_simp
            with_reducible rfl
           rotate_left
           ·simp only [aS, i64_w, i32_w]
            rfl
           refine pure_ (i := 11) (N := some 53) (v := ?_) (a' := ?_) (bs 40 4095) rfl rfl (any_of HT_.out (by kernel_rfl)) (fun _ _ _ h => h) (Or.inl ⟨by rfl, ?_⟩) ?_ ?_
           rotate_left
           ·intro w'
            go_simp
            with_reducible rfl
           rotate_left
           ·simp only [aS, i64_w, i32_w]
            rfl
           refine pure_ (i := 12) (N := some 54) (v := ?_) (a' := ?_) (bs 40 8191) rfl rfl (any_of HT_.out (by kernel_rfl)) (fun _ _ _ h => h) (Or.inl ⟨by rfl, ?_⟩) ?_ ?_
           rotate_left
           ·intro w'
            go_simp
            with_reducible rfl
           rotate_left
           ·simp only [aS, i64_w, i32_w]
            rfl
           refine pure_ (i := 13) (N := some 55) (v := ?_) (a' := ?_) (bs 40 16383) rfl rfl (any_of HT_.out (by kernel_rfl)) (fun _ _ _ h => h) (Or.inl ⟨by rfl, ?_⟩) ?_ ?_
           rotate_left
           ·intro w'
            go_simp
            with_reducible rfl
           rotate_left
           ·simp only [aS, i64_w, i32_w]
            rfl
           refine pure_ (i := 14) (N := some 56) (v := ?_) (a' := ?_) (bs 40 32767) rfl rfl (any_of HT_.out (by kernel_rfl)) (fun _ _ _ h => h) (Or.inl ⟨by rfl, ?_⟩) ?_ ?_
           rotate_left
           ·intro w'
            go_simp
            with_reducible rfl
           rotate_left
           ·simp only [aS, i64_w, i32_w]
            rfl
           refine pure_ (i := 15) (N := some 57) (v := undef) (a' := ?_) (bs 40 65535) rfl rfl (any_of HT_.out (by kernel_rfl)) (fun _ _ _ h => h) (Or.inr ⟨by rfl, rfl⟩) ?_ ?_
           rotate_left
           ·simp only [aS, i64_w, i32_w]
            rfl
           refine pure_ (i := 16) (N := some 58) (v := undef) (a' := ?_) (bs 40 131071) rfl rfl (any_of HT_.out (by kernel_rfl)) (fun _ _ _ h => h) (Or.inr ⟨by rfl, rfl⟩) ?_ ?_
           rotate_left
           ·simp only [aS, i64_w, i32_w]
            rfl
           refine pure_ (i := 17) (N := some 59) (v := undef) (a' := ?_) (bs 40 262143) rfl rfl (any_of HT_.out (by kernel_rfl)) (fun _ _ _ h => h) (Or.inr ⟨by rfl, rfl⟩) ?_ ?_
           rotate_left
           ·simp only [aS, i64_w, i32_w]
            rfl
           refine pure_ (i := 18) (N := some 60) (v := undef) (a' := ?_) (bs 40 524287) rfl rfl (any_of HT_.out (by kernel_rfl)) (fun _ _ _ h => h) (Or.inr ⟨by rfl, rfl⟩) ?_ ?_
           rotate_left
           ·simp only [aS, i64_w, i32_w]
            rfl
           refine pure_ (i := 19) (N := some 61) (v := undef) (a' := ?_) (bs 40 1048575) rfl rfl (any_of HT_.out (by kernel_rfl)) (fun _ _ _ h => h) (Or.inr ⟨by rfl, rfl⟩) ?_ ?_
           rotate_left
           ·simp only [aS, i64_w, i32_w]
            rfl
           refine pure_ (i := 20) (N := some 62) (v := undef) (a' := ?_) (bs 40 2097151) rfl rfl (any_of HT_.out (by kernel_rfl)) (fun _ _ _ h => h) (Or.inr ⟨by rfl, rfl⟩) ?_ ?_
           rotate_left
           ·simp only [aS, i64_w, i32_w]
            rfl
           refine pure_ (i := 21) (N := some 63) (v := undef) (a' := ?_) (bs 40 4194303) rfl rfl (any_of HT_.out (by kernel_rfl)) (fun _ _ _ h => h) (Or.inr ⟨by rfl, rfl⟩) ?_ ?_
           rotate_left
           ·simp only [aS, i64_w, i32_w]
            rfl
           refine pure_ (i := 22) (N := some 64) (v := undef) (a' := ?_) (bs 40 8388607) rfl rfl (any_of HT_.out (by kernel_rfl)) (fun _ _ _ h => h) (Or.inr ⟨by rfl, rfl⟩) ?_ ?_
           rotate_left
           ·simp only [aS, i64_w, i32_w]
            rfl
           refine pure_ (i := 23) (N := some 65) (v := undef) (a' := ?_) (bs 40 16777215) rfl rfl (any_of HT_.out (by kernel_rfl)) (fun _ _ _ h => h) (Or.inr ⟨by rfl, rfl⟩) ?_ ?_
           rotate_left
           ·simp only [aS, i64_w, i32_w]
            rfl
           refine pure_ (i := 24) (N := some 66) (v := ?_) (a' := ?_) (bs 40 33554431) rfl rfl (any_of HT_.out (by kernel_rfl)) (fun _ _ _ h => h) (Or.inl ⟨by rfl, ?_⟩) ?_ ?_
           rotate_left
           ·intro w'
            go_simp
            with_reducible rfl
           rotate_left
           ·simp only [aS, i64_w, i32_w]
            rfl
           refine pure_ (i := 25) (N := some 67) (v := ?_) (a' := ?_) (bs 40 67108863) rfl rfl (any_of HT_.out (by kernel_rfl)) (fun _ _ _ h => h) (Or.inl ⟨by rfl, ?_⟩) ?_ ?_
           rotate_left
           ·intro w'
            go_simp
            with_reducible rfl
           rotate_left
           ·simp only [aS, i64_w, i32_w]
            rfl
           refine pure_ (i := 26) (N := some 68) (v := ?_) (a' := ?_) (bs 40 134217727) rfl rfl (any_of HT_.out (by kernel_rfl)) (fun _ _ _ h => h) (Or.inl ⟨by rfl, ?_⟩) ?_ ?_
           rotate_left
           ·intro w'
            go_simp
            with_reducible rfl
           rotate_left
           ·simp only [aS, i64_w, i32_w]
            rfl
           refine pure_ (i := 27) (N := some 69) (v := ?_) (a' := ?_) (bs 40 268435455) rfl rfl (any_of HT_.out (by kernel_rfl)) (fun _ _ _ h => h) (Or.inl ⟨by rfl, ?_⟩) ?_ ?_
           rotate_left
           ·intro w'
            go_simp
            with_reducible rfl
           rotate_left
           ·simp only [aS, i64_w, i32_w]
            rfl
           refine pure_ (i := 28) (N := some 70) (v := ?_) (a' := ?_) (bs 40 536870911) rfl rfl (any_of HT_.out (by kernel_rfl)) (fun _ _ _ h => h) (Or.inl ⟨by rfl, ?_⟩) ?_ ?_
           rotate_left
           ·intro w'
            go_simp
            with_reducible rfl
           rotate_left
           ·simp only [aS, i64_w, i32_w]
            rfl
           refine pure_ (i := 29) (N := some 71) (v := ?_) (a' := ?_) (bs 40 1073741823) rfl rfl (any_of HT_.out (by kernel_rfl)) (fun _ _ _ h => h) (Or.inl ⟨by rfl, ?_⟩) ?_ ?_
           rotate_left
           ·intro w'
            go_simp
            with_reducible rfl
           rotate_left
           ·simp only [aS, i64_w, i32_w]
            rfl
           refine pure_ (i := 30) (N := some 72) (v := ?_) (a' := ?_) (bs 40 2147483647) rfl rfl (any_of HT_.out (by kernel_rfl)) (fun _ _ _ h => h) (Or.inl ⟨by rfl, ?_⟩) ?_ ?_
           rotate_left
           ·intro w'
            go_simp
            with_reducible rfl
           rotate_left
           ·simp only [aS, i64_w, i32_w]
            rfl
           refine pure_ (i := 31) (N := some 73) (v := ?_) (a' := ?_) (bs 40 4294967295) rfl rfl (any_of HT_.out (by kernel_rfl)) (fun _ _ _ h => h) (Or.inl ⟨by rfl, ?_⟩) ?_ ?_
           rotate_left
           ·intro w'
            go_simp
            with_reducible rfl
           rotate_left
           ·simp only [aS, i64_w, i32_w]
            rfl
           refine pure_ (i := 32) (N := some 74) (v := ?_) (a' := ?_) (bs 40 8589934591) rfl rfl (any_of HT_.out (by kernel_rfl)) (fun _ _ _ h => h) (Or.inl ⟨by rfl, ?_⟩) ?_ ?_
           rotate_left
           ·intro w'
            go_simp
            with_reducible rfl
           rotate_left
           ·simp only [aS, i64_w, i32_w]
            rfl
           refine pure_ (i := 33) (N := some 75) (v := ?_) (a' := ?_) (bs 40 17179869183) rfl rfl (any_of HT_.out (by kernel_rfl)) (fun _ _ _ h => h) (Or.inl ⟨by rfl, ?_⟩) ?_ ?_
           rotate_left
           ·intro w'
            go_simp
            with_reducible rfl
           rotate_left
           ·simp only [aS, i64_w, i32_w]
            rfl
           refine pure_ (i := 34) (N := some 76) (v := undef) (a' := ?_) (bs 40 34359738367) rfl rfl (any_of HT_.out (by kernel_rfl)) (fun _ _ _ h => h) (Or.inr ⟨by rfl, rfl⟩) ?_ ?_
           rotate_left
           ·simp only [aS, i64_w, i32_w]
            rfl
           refine pure_ (i := 35) (N := some 77) (v := undef) (a' := ?_) (bs 40 68719476735) rfl rfl (any_of HT_.out (by kernel_rfl)) (fun _ _ _ h => h) (Or.inr ⟨by rfl, rfl⟩) ?_ ?_
           rotate_left
           ·simp only [aS, i64_w, i32_w]
            rfl
           refine pure_ (i := 36) (N := some 78) (v := undef) (a' := ?_) (bs 40 137438953471) rfl rfl (any_of HT_.out (by kernel_rfl)) (fun _ _ _ h => h) (Or.inr ⟨by rfl, rfl⟩) ?_ ?_
           rotate_left
           ·simp only [aS, i64_w, i32_w]
            rfl
           refine pure_ (i := 37) (N := some 79) (v := ?_) (a' := ?_) (bs 40 274877906943) rfl rfl (any_of HT_.out (by kernel_rfl)) (fun _ _ _ h => h) (Or.inl ⟨by rfl, ?_⟩) ?_ ?_
           rotate_left
           ·intro w'
            go_simp
            with_reducible rfl
           rotate_left
           ·simp only [aS, i64_w, i32_w]
            rfl
           refine pure_ (i := 38) (N := some 80) (v := ?_) (a' := ?_) (bs 40 549755813887) rfl rfl (any_of HT_.out (by kernel_rfl)) (fun _ _ _ h => h) (Or.inl ⟨by rfl, ?_⟩) ?_ ?_
           rotate_left
           ·intro w'
            go_simp
            with_reducible rfl
           rotate_left
           ·simp only [aS, i64_w, i32_w]
            rfl
           refine pure_ (i := 39) (N := some 81) (v := ?_) (a' := ?_) (bs 40 1099511627775) rfl rfl (any_of HT_.out (by kernel_rfl)) (fun _ _ _ h => h) (Or.inl ⟨by rfl, ?_⟩) ?_ ?_
           rotate_left
           ·intro w'
            go_simp
            with_reducible rfl
           rotate_left
           ·simp only [aS, i64_w, i32_w]
            rfl
           refine done_ (done_of HT_.out (by kernel_rfl)) ?_
           try go_wp2
           go_meet
           case rel => exact ⟨_, (true), (by first | rfl | (simp; done) | (simp [*]; done)), H', ⟨by have := HJ5.out; have := HJ10.out; first | omega | exact Nat.le_refl _⟩, ⟨by repeat (first | (with_reducible first | exact HB.out | apply below_alloc | apply pw_below_drewN | apply below_drew1) | exact HB.out)⟩⟩
          ·have H1 : (if q241 = 1 then (clapperlaw11_RevokeTells.j2 kj10 l3 t230 ((t233.length : Int) != 0)) else (clapperlaw11_RevokeTells.j2 kj10 l3 t230 true)) = some r := by rw [if_neg (show ¬ (some q241).isNone = true by simp)] at H; exact H
           clear H
           have H := H1
           clear H1
           try simp only [errW_none, errW_some]
           by_cases c45 : q241 = 1
           ·rw [if_pos c45] at H
            have c45b0 : (q241 == 1) = true := beq_iff_eq.mpr c45
            have c45b1 : (q241 != 1) = false := bne_eq_false_iff_eq.mpr c45
            clear c45
            have H' := Aside0.mk H
            clear H
            try go_wp2
            have n0_ := Aside0.mk (Kd.R_drew HO236.out)
            have n1_ := Aside0.mk (below_drew1 HB.out)
            clear HO236
            clear HB
            have HO236 := n0_
            have HB := n1_
            clear n0_ n1_
            refine start_ (n := 40) (S := fun w' => True) (ds := []) (bs 40 0) (by kernel_rfl) rfl rfl trivial (fun hHeld => ?_); refine with_tabW clapperlaw11_RevokeTells.tab7 clapperlaw11_RevokeTells.bits7 (fun HT_ HW_ => ?_)
            generalize w16.drew = w46 at HO236 HB hHeld ⊢
            refine pure_ (i := 0) (N := some 42) (v := ?_) (a' := ?_) (bs 40 1) rfl rfl (any_of HT_.out (by kernel_rfl)) (fun _ _ _ h => h) (Or.inl ⟨by rfl, ?_⟩) ?_ ?_
            rotate_left
            ·intro w'
             go_simp
             with_reducible rfl
            rotate_left
            ·simp only [aS, i64_w, i32_w]
             rfl
            refine pure_ (i := 2) (N := some 44) (v := ?_) (a' := ?_) (bs 40 5) rfl rfl (any_of HT_.out (by kernel_rfl)) (fun _ _ _ h => h) (Or.inl ⟨by rfl, ?_⟩) ?_ ?_
            rotate_left
            ·intro w'
             go_simp
             with_reducible rfl
            rotate_left
            ·simp only [aS, i64_w, i32_w]
             rfl
            refine one_ (i := 1) (N := some 43) (bs 40 7) rfl rfl (one_of HT_.out (by kernel_rfl)) (by decide) (fun K hK => ?_)
            refine goes_ Try.func13 (by kernel_rfl) rfl #[.slice A0 l0.length c0] (by rfl) rfl rfl (by (try simp only [List.map_toArray, List.map_cons, List.map_nil]); first | done | rfl | (simp only [List.length_drop, List.length_take]; rfl)) ?_
            with_reducible refine (revoke_May.calls kj10 _ _ l0 t237 _ ?side1 ?side2 A17.out).mono ?_
            (case side1 => repeat (first | exact (Kd.C_below HR0.out HB.out) | (with_reducible refine Kd.C_alloc ?_ _) | (with_reducible refine Kd.C_drewN ?_ _) | (with_reducible refine Kd.C_drew ?_)))
            (case side2 => exact HC0.out)
            rintro e w47 ⟨rfl, hb⟩
            refine ⟨_, rfl, ?_⟩
            have n0_ := Aside0.mk (Kd.R_below (by (with_reducible repeat (first | apply Kd.R_alloc | apply Kd.R_drewN | apply Kd.R_drew)); exact HO236.out) hb)
            have n1_ := Aside0.mk (below_step (by repeat (first | (with_reducible first | exact HB.out | apply below_alloc | apply pw_below_drewN | apply below_drew1) | exact HB.out)) hb)
            clear HO236
            clear HB
            have HO236 := n0_
            have HB := n1_
            clear n0_ n1_
            (try clear hb)
            (try clear hb2)
            (try clear hk)
            (try clear hi)
            refine hK.out _ _ trivial (fun hHeld => ?_)
            clear hK K
            refine nm_ (some 43) ?_
            refine pure_ (i := 3) (N := some 45) (v := ?_) (a' := ?_) (bs 40 15) rfl rfl (any_of HT_.out (by kernel_rfl)) (fun _ _ _ h => h) (Or.inl ⟨by rfl, ?_⟩) ?_ ?_
            rotate_left
            ·intro w'
             go_simp
             with_reducible rfl
            rotate_left
            ·simp only [aS, i64_w, i32_w]
             rfl
            refine pure_ (i := 4) (N := some 46) (v := ?_) (a' := ?_) (bs 40 31) rfl rfl (any_of HT_.out (by kernel_rfl)) (fun _ _ _ h => h) (Or.inl ⟨by rfl, ?_⟩) ?_ ?_
            rotate_left
            ·intro w'
             go_simp
             with_reducible rfl
            rotate_left
            ·simp only [aS, i64_w, i32_w]
             rfl
            refine pure_ (i := 5) (N := some 47) (v := ?_) (a' := ?_) (bs 40 63) rfl rfl (any_of HT_.out (by kernel_rfl)) (fun _ _ _ h => h) (Or.inl ⟨by rfl, ?_⟩) ?_ ?_
            rotate_left
            ·intro w'
             go_simp
             with_reducible rfl
            rotate_left
            ·simp only [aS, i64_w, i32_w]
             rfl
            refine pure_ (i := 6) (N := some 48) (v := ?_) (a' := ?_) (bs 40 127) rfl rfl (any_of HT_.out (by kernel_rfl)) (fun _ _ _ h => h) (Or.inl ⟨by rfl, ?_⟩) ?_ ?_
            rotate_left
            ·intro w'
             go_simp
             with_reducible rfl
            rotate_left
            ·simp only [aS, i64_w, i32_w]
             rfl
            refine pure_ (i := 7) (N := some 49) (v := ?_) (a' := ?_) (bs 40 255) rfl rfl (any_of HT_.out (by kernel_rfl)) (fun _ _ _ h => h) (Or.inl ⟨by rfl, ?_⟩) ?_ ?_
            rotate_left
            ·intro w'
             go_simp
             with_reducible rfl
            rotate_left
            ·simp only [aS, i64_w, i32_w]
             rfl
            refine pure_ (i := 9) (N := some 51) (v := ?_) (a' := ?_) (bs 40 767) rfl rfl (any_of HT_.out (by kernel_rfl)) (fun _ _ _ h => h) (Or.inl ⟨by rfl, ?_⟩) ?_ ?_
            rotate_left
            ·intro w'
             go_simp
             with_reducible rfl
            rotate_left
            ·simp only [aS, i64_w, i32_w]
             rfl
            refine one_ (i := 8) (N := some 50) (bs 40 1023) rfl rfl (one_of HT_.out (by kernel_rfl)) (by decide) (fun K hK => ?_)
            refine goes_ Try.func14 (by kernel_rfl) rfl #[.slice A0 l0.length c0, .int .i64 a1, .int .i64 a2] (by rfl) rfl rfl (by (try simp only [List.map_toArray, List.map_cons, List.map_nil]); first | done | rfl | (simp only [List.length_drop, List.length_take]; rfl)) ?_
            with_reducible refine (revoke_Is.calls kj10 _ _ l0 a1 a2 t238 _ ?side1 ?side2 A21.out).mono ?_
            (case side1 => repeat (first | exact (Kd.C_below HR0.out HB.out) | (with_reducible refine Kd.C_alloc ?_ _) | (with_reducible refine Kd.C_drewN ?_ _) | (with_reducible refine Kd.C_drew ?_)))
            (case side2 => exact HC0.out)
            rintro e w48 ⟨rfl, hb⟩
            refine ⟨_, rfl, ?_⟩
            have n0_ := Aside0.mk (Kd.R_below (by (with_reducible repeat (first | apply Kd.R_alloc | apply Kd.R_drewN | apply Kd.R_drew)); exact HO236.out) hb)
            have n1_ := Aside0.mk (below_step (by repeat (first | (with_reducible first | exact HB.out | apply below_alloc | apply pw_below_drewN | apply below_drew1) | exact HB.out)) hb)
            clear HO236
            clear HB
            have HO236 := n0_
            have HB := n1_
            clear n0_ n1_
            (try clear hb)
            (try clear hb2)
            (try clear hk)
            (try clear hi)
            obtain ⟨Ao49, co49, eo49⟩ := Kd.R_slice HO236.out
            (first | subst eo49 | (injection eo49 with f1_ f2_ f3_; have f4_ := f1_.symm; have f5_ := f3_.symm; clear f1_ f2_ f3_; subst f4_; subst f5_))
            refine hK.out _ _ trivial (fun hHeld => ?_)
            clear hK K
            refine nm_ (some 50) ?_
            refine pure_ (i := 10) (N := some 52) (v := ?_) (a' := ?_) (bs 40 2047) rfl rfl (any_of HT_.out (by kernel_rfl)) (fun _ _ _ h => h) (Or.inl ⟨by rfl, ?_⟩) ?_ ?_
            rotate_left
            ·intro w'
             go_simp
             with_reducible rfl
            rotate_left
            ·simp only [aS, i64_w, i32_w]
             rfl
            refine pure_ (i := 11) (N := some 53) (v := ?_) (a' := ?_) (bs 40 4095) rfl rfl (any_of HT_.out (by kernel_rfl)) (fun _ _ _ h => h) (Or.inl ⟨by rfl, ?_⟩) ?_ ?_
            rotate_left
            ·intro w'
             go_simp
             with_reducible rfl
            rotate_left
            ·simp only [aS, i64_w, i32_w]
             rfl
            refine pure_ (i := 12) (N := some 54) (v := ?_) (a' := ?_) (bs 40 8191) rfl rfl (any_of HT_.out (by kernel_rfl)) (fun _ _ _ h => h) (Or.inl ⟨by rfl, ?_⟩) ?_ ?_
            rotate_left
            ·intro w'
             go_simp
             with_reducible rfl
            rotate_left
            ·simp only [aS, i64_w, i32_w]
             rfl
            refine pure_ (i := 13) (N := some 55) (v := ?_) (a' := ?_) (bs 40 16383) rfl rfl (any_of HT_.out (by kernel_rfl)) (fun _ _ _ h => h) (Or.inl ⟨by rfl, ?_⟩) ?_ ?_
            rotate_left
            ·intro w'
             go_simp
             with_reducible rfl
            rotate_left
            ·simp only [aS, i64_w, i32_w]
             rfl
            refine pure_ (i := 14) (N := some 56) (v := ?_) (a' := ?_) (bs 40 32767) rfl rfl (any_of HT_.out (by kernel_rfl)) (fun _ _ _ h => h) (Or.inl ⟨by rfl, ?_⟩) ?_ ?_
            rotate_left
            ·intro w'
             go_simp
             with_reducible rfl
            rotate_left
            ·simp only [aS, i64_w, i32_w]
             rfl
            refine pure_ (i := 15) (N := some 57) (v := undef) (a' := ?_) (bs 40 65535) rfl rfl (any_of HT_.out (by kernel_rfl)) (fun _ _ _ h => h) (Or.inr ⟨by rfl, rfl⟩) ?_ ?_
            rotate_left
            ·simp only [aS, i64_w, i32_w]
             rfl
            refine pure_ (i := 16) (N := some 58) (v := undef) (a' := ?_) (bs 40 131071) rfl rfl (any_of HT_.out (by kernel_rfl)) (fun _ _ _ h => h) (Or.inr ⟨by rfl, rfl⟩) ?_ ?_
            rotate_left
            ·simp only [aS, i64_w, i32_w]
             rfl
            refine pure_ (i := 17) (N := some 59) (v := undef) (a' := ?_) (bs 40 262143) rfl rfl (any_of HT_.out (by kernel_rfl)) (fun _ _ _ h => h) (Or.inr ⟨by rfl, rfl⟩) ?_ ?_
            rotate_left
            ·simp only [aS, i64_w, i32_w]
             rfl
            refine pure_ (i := 18) (N := some 60) (v := undef) (a' := ?_) (bs 40 524287) rfl rfl (any_of HT_.out (by kernel_rfl)) (fun _ _ _ h => h) (Or.inr ⟨by rfl, rfl⟩) ?_ ?_
            rotate_left
            ·simp only [aS, i64_w, i32_w]
             rfl
            refine pure_ (i := 19) (N := some 61) (v := undef) (a' := ?_) (bs 40 1048575) rfl rfl (any_of HT_.out (by kernel_rfl)) (fun _ _ _ h => h) (Or.inr ⟨by rfl, rfl⟩) ?_ ?_
            rotate_left
            ·simp only [aS, i64_w, i32_w]
             rfl
            refine pure_ (i := 20) (N := some 62) (v := undef) (a' := ?_) (bs 40 2097151) rfl rfl (any_of HT_.out (by kernel_rfl)) (fun _ _ _ h => h) (Or.inr ⟨by rfl, rfl⟩) ?_ ?_
            rotate_left
            ·simp only [aS, i64_w, i32_w]
             rfl
            refine pure_ (i := 21) (N := some 63) (v := undef) (a' := ?_) (bs 40 4194303) rfl rfl (any_of HT_.out (by kernel_rfl)) (fun _ _ _ h => h) (Or.inr ⟨by rfl, rfl⟩) ?_ ?_
            rotate_left
            ·simp only [aS, i64_w, i32_w]
             rfl
            refine pure_ (i := 22) (N := some 64) (v := undef) (a' := ?_) (bs 40 8388607) rfl rfl (any_of HT_.out (by kernel_rfl)) (fun _ _ _ h => h) (Or.inr ⟨by rfl, rfl⟩) ?_ ?_
            rotate_left
            ·simp only [aS, i64_w, i32_w]
             rfl
            refine pure_ (i := 23) (N := some 65) (v := undef) (a' := ?_) (bs 40 16777215) rfl rfl (any_of HT_.out (by kernel_rfl)) (fun _ _ _ h => h) (Or.inr ⟨by rfl, rfl⟩) ?_ ?_
            rotate_left
            ·simp only [aS, i64_w, i32_w]
             rfl
            refine pure_ (i := 24) (N := some 66) (v := ?_) (a' := ?_) (bs 40 33554431) rfl rfl (any_of HT_.out (by kernel_rfl)) (fun _ _ _ h => h) (Or.inl ⟨by rfl, ?_⟩) ?_ ?_
            rotate_left
            ·intro w'
             go_simp
             with_reducible rfl
            rotate_left
            ·simp only [aS, i64_w, i32_w]
             rfl
            refine pure_ (i := 25) (N := some 67) (v := ?_) (a' := ?_) (bs 40 67108863) rfl rfl (any_of HT_.out (by kernel_rfl)) (fun _ _ _ h => h) (Or.inl ⟨by rfl, ?_⟩) ?_ ?_
            rotate_left
            ·intro w'
             go_simp
             with_reducible rfl
            rotate_left
            ·simp only [aS, i64_w, i32_w]
             rfl
            refine pure_ (i := 26) (N := some 68) (v := ?_) (a' := ?_) (bs 40 134217727) rfl rfl (any_of HT_.out (by kernel_rfl)) (fun _ _ _ h => h) (Or.inl ⟨by rfl, ?_⟩) ?_ ?_
            rotate_left
            ·intro w'
             go_simp
             with_reducible rfl
            rotate_left
            ·simp only [aS, i64_w, i32_w]
             rfl
            refine pure_ (i := 27) (N := some 69) (v := ?_) (a' := ?_) (bs 40 268435455) rfl rfl (any_of HT_.out (by kernel_rfl)) (fun _ _ _ h => h) (Or.inl ⟨by rfl, ?_⟩) ?_ ?_
            rotate_left
            ·intro w'
             go_simp
             with_reducible rfl
            rotate_left
            ·simp only [aS, i64_w, i32_w]
             rfl
            refine pure_ (i := 28) (N := some 70) (v := ?_) (a' := ?_) (bs 40 536870911) rfl rfl (any_of HT_.out (by kernel_rfl)) (fun _ _ _ h => h) (Or.inl ⟨by rfl, ?_⟩) ?_ ?_
            rotate_left
            ·intro w'
             go_simp
             with_reducible rfl
            rotate_left
            ·simp only [aS, i64_w, i32_w]
             rfl
            refine pure_ (i := 29) (N := some 71) (v := ?_) (a' := ?_) (bs 40 1073741823) rfl rfl (any_of HT_.out (by kernel_rfl)) (fun _ _ _ h => h) (Or.inl ⟨by rfl, ?_⟩) ?_ ?_
            rotate_left
            ·intro w'
             go_simp
             with_reducible rfl
            rotate_left
            ·simp only [aS, i64_w, i32_w]
             rfl
            refine pure_ (i := 30) (N := some 72) (v := ?_) (a' := ?_) (bs 40 2147483647) rfl rfl (any_of HT_.out (by kernel_rfl)) (fun _ _ _ h => h) (Or.inl ⟨by rfl, ?_⟩) ?_ ?_
            rotate_left
            ·intro w'
             go_simp
             with_reducible rfl
            rotate_left
            ·simp only [aS, i64_w, i32_w]
             rfl
            refine pure_ (i := 31) (N := some 73) (v := ?_) (a' := ?_) (bs 40 4294967295) rfl rfl (any_of HT_.out (by kernel_rfl)) (fun _ _ _ h => h) (Or.inl ⟨by rfl, ?_⟩) ?_ ?_
            rotate_left
            ·intro w'
             go_simp
             with_reducible rfl
            rotate_left
            ·simp only [aS, i64_w, i32_w]
             rfl
            refine pure_ (i := 32) (N := some 74) (v := ?_) (a' := ?_) (bs 40 8589934591) rfl rfl (any_of HT_.out (by kernel_rfl)) (fun _ _ _ h => h) (Or.inl ⟨by rfl, ?_⟩) ?_ ?_
            rotate_left
            ·intro w'
             go_simp
             with_reducible rfl
            rotate_left
            ·simp only [aS, i64_w, i32_w]
             rfl
            refine pure_ (i := 33) (N := some 75) (v := ?_) (a' := ?_) (bs 40 17179869183) rfl rfl (any_of HT_.out (by kernel_rfl)) (fun _ _ _ h => h) (Or.inl ⟨by rfl, ?_⟩) ?_ ?_
            rotate_left
            ·intro w'
             go_simp
             with_reducible rfl
            rotate_left
            ·simp only [aS, i64_w, i32_w]
             rfl
            refine pure_ (i := 34) (N := some 76) (v := ?_) (a' := ?_) (bs 40 34359738367) rfl rfl (any_of HT_.out (by kernel_rfl)) (fun _ _ _ h => h) (Or.inl ⟨by rfl, ?_⟩) ?_ ?_
            rotate_left
            ·intro w'
             go_simp
             with_reducible rfl
            rotate_left
            ·simp only [aS, i64_w, i32_w]
             rfl
            refine pure_ (i := 35) (N := some 77) (v := ?_) (a' := ?_) (bs 40 68719476735) rfl rfl (any_of HT_.out (by kernel_rfl)) (fun _ _ _ h => h) (Or.inl ⟨by rfl, ?_⟩) ?_ ?_
            rotate_left
            ·intro w'
             go_simp
             with_reducible rfl
            rotate_left
            ·simp only [aS, i64_w, i32_w]
             rfl
            refine pure_ (i := 36) (N := some 78) (v := ?_) (a' := ?_) (bs 40 137438953471) rfl rfl (any_of HT_.out (by kernel_rfl)) (fun _ _ _ h => h) (Or.inl ⟨by rfl, ?_⟩) ?_ ?_
            rotate_left
            ·intro w'
             go_simp
             with_reducible rfl
            rotate_left
            ·simp only [aS, i64_w, i32_w]
             rfl
            refine pure_ (i := 37) (N := some 79) (v := ?_) (a' := ?_) (bs 40 274877906943) rfl rfl (any_of HT_.out (by kernel_rfl)) (fun _ _ _ h => h) (Or.inl ⟨by rfl, ?_⟩) ?_ ?_
            rotate_left
            ·intro w'
             go_simp
             with_reducible rfl
            rotate_left
            ·simp only [aS, i64_w, i32_w]
             rfl
            refine pure_ (i := 38) (N := some 80) (v := ?_) (a' := ?_) (bs 40 549755813887) rfl rfl (any_of HT_.out (by kernel_rfl)) (fun _ _ _ h => h) (Or.inl ⟨by rfl, ?_⟩) ?_ ?_
            rotate_left
            ·intro w'
             go_simp
             with_reducible rfl
            rotate_left
            ·simp only [aS, i64_w, i32_w]
             rfl
            refine pure_ (i := 39) (N := some 81) (v := ?_) (a' := ?_) (bs 40 1099511627775) rfl rfl (any_of HT_.out (by kernel_rfl)) (fun _ _ _ h => h) (Or.inl ⟨by rfl, ?_⟩) ?_ ?_
            rotate_left
            ·intro w'
             go_simp
             with_reducible rfl
            rotate_left
            ·simp only [aS, i64_w, i32_w]
             rfl
            refine done_ (done_of HT_.out (by kernel_rfl)) ?_
            try go_wp2
            go_meet
            case rel => exact ⟨_, (((t233.length : Int) != 0)), (by first | rfl | (simp; done) | (simp [*]; done)), H', ⟨by have := HJ5.out; have := HJ10.out; first | omega | exact Nat.le_refl _⟩, ⟨by repeat (first | (with_reducible first | exact HB.out | apply below_alloc | apply pw_below_drewN | apply below_drew1) | exact HB.out)⟩⟩
           ·rw [if_neg c45] at H
            have c45b0 : (q241 == 1) = false := beq_eq_false_iff_ne.mpr c45
            have c45b1 : (q241 != 1) = true := bne_iff_ne.mpr c45
            have H' := Aside0.mk H
            clear H
            try go_wp2
            have n0_ := Aside0.mk (Kd.R_drew HO236.out)
            have n1_ := Aside0.mk (below_drew1 HB.out)
            clear HO236
            clear HB
            have HO236 := n0_
            have HB := n1_
            clear n0_ n1_
            refine start_ (n := 40) (S := fun w' => True) (ds := []) (bs 40 0) (by kernel_rfl) rfl rfl trivial (fun hHeld => ?_); refine with_tabW clapperlaw11_RevokeTells.tab7 clapperlaw11_RevokeTells.bits7 (fun HT_ HW_ => ?_)
            generalize w16.drew = w50 at HO236 HB hHeld ⊢
            refine pure_ (i := 0) (N := some 42) (v := ?_) (a' := ?_) (bs 40 1) rfl rfl (any_of HT_.out (by kernel_rfl)) (fun _ _ _ h => h) (Or.inl ⟨by rfl, ?_⟩) ?_ ?_
            rotate_left
            ·intro w'
             go_simp
             with_reducible rfl
            rotate_left
            ·simp only [aS, i64_w, i32_w]
             rfl
            refine pure_ (i := 2) (N := some 44) (v := ?_) (a' := ?_) (bs 40 5) rfl rfl (any_of HT_.out (by kernel_rfl)) (fun _ _ _ h => h) (Or.inl ⟨by rfl, ?_⟩) ?_ ?_
            rotate_left
            ·intro w'
             go_simp
             with_reducible rfl
            rotate_left
            ·simp only [aS, i64_w, i32_w]
             rfl
            refine one_ (i := 1) (N := some 43) (bs 40 7) rfl rfl (one_of HT_.out (by kernel_rfl)) (by decide) (fun K hK => ?_)
            refine goes_ Try.func13 (by kernel_rfl) rfl #[.slice A0 l0.length c0] (by rfl) rfl rfl (by (try simp only [List.map_toArray, List.map_cons, List.map_nil]); first | done | rfl | (simp only [List.length_drop, List.length_take]; rfl)) ?_
            with_reducible refine (revoke_May.calls kj10 _ _ l0 t237 _ ?side1 ?side2 A17.out).mono ?_
            (case side1 => repeat (first | exact (Kd.C_below HR0.out HB.out) | (with_reducible refine Kd.C_alloc ?_ _) | (with_reducible refine Kd.C_drewN ?_ _) | (with_reducible refine Kd.C_drew ?_)))
            (case side2 => exact HC0.out)
            rintro e w51 ⟨rfl, hb⟩
            refine ⟨_, rfl, ?_⟩
            have n0_ := Aside0.mk (Kd.R_below (by (with_reducible repeat (first | apply Kd.R_alloc | apply Kd.R_drewN | apply Kd.R_drew)); exact HO236.out) hb)
            have n1_ := Aside0.mk (below_step (by repeat (first | (with_reducible first | exact HB.out | apply below_alloc | apply pw_below_drewN | apply below_drew1) | exact HB.out)) hb)
            clear HO236
            clear HB
            have HO236 := n0_
            have HB := n1_
            clear n0_ n1_
            (try clear hb)
            (try clear hb2)
            (try clear hk)
            (try clear hi)
            refine hK.out _ _ trivial (fun hHeld => ?_)
            clear hK K
            refine nm_ (some 43) ?_
            refine pure_ (i := 3) (N := some 45) (v := ?_) (a' := ?_) (bs 40 15) rfl rfl (any_of HT_.out (by kernel_rfl)) (fun _ _ _ h => h) (Or.inl ⟨by rfl, ?_⟩) ?_ ?_
            rotate_left
            ·intro w'
             go_simp
             with_reducible rfl
            rotate_left
            ·simp only [aS, i64_w, i32_w]
             rfl
            refine pure_ (i := 4) (N := some 46) (v := ?_) (a' := ?_) (bs 40 31) rfl rfl (any_of HT_.out (by kernel_rfl)) (fun _ _ _ h => h) (Or.inl ⟨by rfl, ?_⟩) ?_ ?_
            rotate_left
            ·intro w'
             go_simp
             with_reducible rfl
            rotate_left
            ·simp only [aS, i64_w, i32_w]
             rfl
            refine pure_ (i := 5) (N := some 47) (v := ?_) (a' := ?_) (bs 40 63) rfl rfl (any_of HT_.out (by kernel_rfl)) (fun _ _ _ h => h) (Or.inl ⟨by rfl, ?_⟩) ?_ ?_
            rotate_left
            ·intro w'
             go_simp
             with_reducible rfl
            rotate_left
            ·simp only [aS, i64_w, i32_w]
             rfl
            refine pure_ (i := 6) (N := some 48) (v := ?_) (a' := ?_) (bs 40 127) rfl rfl (any_of HT_.out (by kernel_rfl)) (fun _ _ _ h => h) (Or.inl ⟨by rfl, ?_⟩) ?_ ?_
            rotate_left
            ·intro w'
             go_simp
             with_reducible rfl
            rotate_left
            ·simp only [aS, i64_w, i32_w]
             rfl
            refine pure_ (i := 7) (N := some 49) (v := ?_) (a' := ?_) (bs 40 255) rfl rfl (any_of HT_.out (by kernel_rfl)) (fun _ _ _ h => h) (Or.inl ⟨by rfl, ?_⟩) ?_ ?_
            rotate_left
            ·intro w'
             go_simp
             with_reducible rfl
            rotate_left
            ·simp only [aS, i64_w, i32_w]
             rfl
            refine pure_ (i := 9) (N := some 51) (v := ?_) (a' := ?_) (bs 40 767) rfl rfl (any_of HT_.out (by kernel_rfl)) (fun _ _ _ h => h) (Or.inl ⟨by rfl, ?_⟩) ?_ ?_
            rotate_left
            ·intro w'
             go_simp
             with_reducible rfl
            rotate_left
            ·simp only [aS, i64_w, i32_w]
             rfl
            refine one_ (i := 8) (N := some 50) (bs 40 1023) rfl rfl (one_of HT_.out (by kernel_rfl)) (by decide) (fun K hK => ?_)
            refine goes_ Try.func14 (by kernel_rfl) rfl #[.slice A0 l0.length c0, .int .i64 a1, .int .i64 a2] (by rfl) rfl rfl (by (try simp only [List.map_toArray, List.map_cons, List.map_nil]); first | done | rfl | (simp only [List.length_drop, List.length_take]; rfl)) ?_
            with_reducible refine (revoke_Is.calls kj10 _ _ l0 a1 a2 t238 _ ?side1 ?side2 A21.out).mono ?_
            (case side1 => repeat (first | exact (Kd.C_below HR0.out HB.out) | (with_reducible refine Kd.C_alloc ?_ _) | (with_reducible refine Kd.C_drewN ?_ _) | (with_reducible refine Kd.C_drew ?_)))
            (case side2 => exact HC0.out)
            rintro e w52 ⟨rfl, hb⟩
            refine ⟨_, rfl, ?_⟩
            have n0_ := Aside0.mk (Kd.R_below (by (with_reducible repeat (first | apply Kd.R_alloc | apply Kd.R_drewN | apply Kd.R_drew)); exact HO236.out) hb)
            have n1_ := Aside0.mk (below_step (by repeat (first | (with_reducible first | exact HB.out | apply below_alloc | apply pw_below_drewN | apply below_drew1) | exact HB.out)) hb)
            clear HO236
            clear HB
            have HO236 := n0_
            have HB := n1_
            clear n0_ n1_
            (try clear hb)
            (try clear hb2)
            (try clear hk)
            (try clear hi)
            refine hK.out _ _ trivial (fun hHeld => ?_)
            clear hK K
            refine nm_ (some 50) ?_
            refine pure_ (i := 10) (N := some 52) (v := ?_) (a' := ?_) (bs 40 2047) rfl rfl (any_of HT_.out (by kernel_rfl)) (fun _ _ _ h => h) (Or.inl ⟨by rfl, ?_⟩) ?_ ?_
            rotate_left
            ·intro w'
             go_simp
             with_reducible rfl
            rotate_left
            ·simp only [aS, i64_w, i32_w]
             rfl
            refine pure_ (i := 11) (N := some 53) (v := ?_) (a' := ?_) (bs 40 4095) rfl rfl (any_of HT_.out (by kernel_rfl)) (fun _ _ _ h => h) (Or.inl ⟨by rfl, ?_⟩) ?_ ?_
            rotate_left
            ·intro w'
             go_simp
             with_reducible rfl
            rotate_left
            ·simp only [aS, i64_w, i32_w]
             rfl
            refine pure_ (i := 12) (N := some 54) (v := ?_) (a' := ?_) (bs 40 8191) rfl rfl (any_of HT_.out (by kernel_rfl)) (fun _ _ _ h => h) (Or.inl ⟨by rfl, ?_⟩) ?_ ?_
            rotate_left
            ·intro w'
             go_simp
             with_reducible rfl
            rotate_left
            ·simp only [aS, i64_w, i32_w]
             rfl
            refine pure_ (i := 13) (N := some 55) (v := ?_) (a' := ?_) (bs 40 16383) rfl rfl (any_of HT_.out (by kernel_rfl)) (fun _ _ _ h => h) (Or.inl ⟨by rfl, ?_⟩) ?_ ?_
            rotate_left
            ·intro w'
             go_simp
             with_reducible rfl
            rotate_left
            ·simp only [aS, i64_w, i32_w]
             rfl
            refine pure_ (i := 14) (N := some 56) (v := ?_) (a' := ?_) (bs 40 32767) rfl rfl (any_of HT_.out (by kernel_rfl)) (fun _ _ _ h => h) (Or.inl ⟨by rfl, ?_⟩) ?_ ?_
            rotate_left
            ·intro w'
             go_simp
             with_reducible rfl
            rotate_left
            ·simp only [aS, i64_w, i32_w]
             rfl
            refine pure_ (i := 15) (N := some 57) (v := undef) (a' := ?_) (bs 40 65535) rfl rfl (any_of HT_.out (by kernel_rfl)) (fun _ _ _ h => h) (Or.inr ⟨by rfl, rfl⟩) ?_ ?_
            rotate_left
            ·simp only [aS, i64_w, i32_w]
             rfl
            refine pure_ (i := 16) (N := some 58) (v := undef) (a' := ?_) (bs 40 131071) rfl rfl (any_of HT_.out (by kernel_rfl)) (fun _ _ _ h => h) (Or.inr ⟨by rfl, rfl⟩) ?_ ?_
            rotate_left
            ·simp only [aS, i64_w, i32_w]
             rfl
            refine pure_ (i := 17) (N := some 59) (v := undef) (a' := ?_) (bs 40 262143) rfl rfl (any_of HT_.out (by kernel_rfl)) (fun _ _ _ h => h) (Or.inr ⟨by rfl, rfl⟩) ?_ ?_
            rotate_left
            ·simp only [aS, i64_w, i32_w]
             rfl
            refine pure_ (i := 18) (N := some 60) (v := undef) (a' := ?_) (bs 40 524287) rfl rfl (any_of HT_.out (by kernel_rfl)) (fun _ _ _ h => h) (Or.inr ⟨by rfl, rfl⟩) ?_ ?_
            rotate_left
            ·simp only [aS, i64_w, i32_w]
             rfl
            refine pure_ (i := 19) (N := some 61) (v := undef) (a' := ?_) (bs 40 1048575) rfl rfl (any_of HT_.out (by kernel_rfl)) (fun _ _ _ h => h) (Or.inr ⟨by rfl, rfl⟩) ?_ ?_
            rotate_left
            ·simp only [aS, i64_w, i32_w]
             rfl
            refine pure_ (i := 20) (N := some 62) (v := undef) (a' := ?_) (bs 40 2097151) rfl rfl (any_of HT_.out (by kernel_rfl)) (fun _ _ _ h => h) (Or.inr ⟨by rfl, rfl⟩) ?_ ?_
            rotate_left
            ·simp only [aS, i64_w, i32_w]
             rfl
            refine pure_ (i := 21) (N := some 63) (v := undef) (a' := ?_) (bs 40 4194303) rfl rfl (any_of HT_.out (by kernel_rfl)) (fun _ _ _ h => h) (Or.inr ⟨by rfl, rfl⟩) ?_ ?_
            rotate_left
            ·simp only [aS, i64_w, i32_w]
             rfl
            refine pure_ (i := 22) (N := some 64) (v := undef) (a' := ?_) (bs 40 8388607) rfl rfl (any_of HT_.out (by kernel_rfl)) (fun _ _ _ h => h) (Or.inr ⟨by rfl, rfl⟩) ?_ ?_
            rotate_left
            ·simp only [aS, i64_w, i32_w]
             rfl
            refine pure_ (i := 23) (N := some 65) (v := undef) (a' := ?_) (bs 40 16777215) rfl rfl (any_of HT_.out (by kernel_rfl)) (fun _ _ _ h => h) (Or.inr ⟨by rfl, rfl⟩) ?_ ?_
            rotate_left
            ·simp only [aS, i64_w, i32_w]
             rfl
            refine pure_ (i := 24) (N := some 66) (v := ?_) (a' := ?_) (bs 40 33554431) rfl rfl (any_of HT_.out (by kernel_rfl)) (fun _ _ _ h => h) (Or.inl ⟨by rfl, ?_⟩) ?_ ?_
            rotate_left
            ·intro w'
             go_simp
             with_reducible rfl
            rotate_left
            ·simp only [aS, i64_w, i32_w]
             rfl
            refine pure_ (i := 25) (N := some 67) (v := ?_) (a' := ?_) (bs 40 67108863) rfl rfl (any_of HT_.out (by kernel_rfl)) (fun _ _ _ h => h) (Or.inl ⟨by rfl, ?_⟩) ?_ ?_
            rotate_left
            ·intro w'
             go_simp
             with_reducible rfl
            rotate_left
            ·simp only [aS, i64_w, i32_w]
             rfl
            refine pure_ (i := 26) (N := some 68) (v := ?_) (a' := ?_) (bs 40 134217727) rfl rfl (any_of HT_.out (by kernel_rfl)) (fun _ _ _ h => h) (Or.inl ⟨by rfl, ?_⟩) ?_ ?_
            rotate_left
            ·intro w'
             go_simp
             with_reducible rfl
            rotate_left
            ·simp only [aS, i64_w, i32_w]
             rfl
            refine pure_ (i := 27) (N := some 69) (v := ?_) (a' := ?_) (bs 40 268435455) rfl rfl (any_of HT_.out (by kernel_rfl)) (fun _ _ _ h => h) (Or.inl ⟨by rfl, ?_⟩) ?_ ?_
            rotate_left
            ·intro w'
             go_simp
             with_reducible rfl
            rotate_left
            ·simp only [aS, i64_w, i32_w]
             rfl
            refine pure_ (i := 28) (N := some 70) (v := ?_) (a' := ?_) (bs 40 536870911) rfl rfl (any_of HT_.out (by kernel_rfl)) (fun _ _ _ h => h) (Or.inl ⟨by rfl, ?_⟩) ?_ ?_
            rotate_left
            ·intro w'
             go_simp
             with_reducible rfl
            rotate_left
            ·simp only [aS, i64_w, i32_w]
             rfl
            refine pure_ (i := 29) (N := some 71) (v := ?_) (a' := ?_) (bs 40 1073741823) rfl rfl (any_of HT_.out (by kernel_rfl)) (fun _ _ _ h => h) (Or.inl ⟨by rfl, ?_⟩) ?_ ?_
            rotate_left
            ·intro w'
             go_simp
             with_reducible rfl
            rotate_left
            ·simp only [aS, i64_w, i32_w]
             rfl
            refine pure_ (i := 30) (N := some 72) (v := ?_) (a' := ?_) (bs 40 2147483647) rfl rfl (any_of HT_.out (by kernel_rfl)) (fun _ _ _ h => h) (Or.inl ⟨by rfl, ?_⟩) ?_ ?_
            rotate_left
            ·intro w'
             go_simp
             with_reducible rfl
            rotate_left
            ·simp only [aS, i64_w, i32_w]
             rfl
            refine pure_ (i := 31) (N := some 73) (v := ?_) (a' := ?_) (bs 40 4294967295) rfl rfl (any_of HT_.out (by kernel_rfl)) (fun _ _ _ h => h) (Or.inl ⟨by rfl, ?_⟩) ?_ ?_
            rotate_left
            ·intro w'
             go_simp
             with_reducible rfl
            rotate_left
            ·simp only [aS, i64_w, i32_w]
             rfl
            refine pure_ (i := 32) (N := some 74) (v := ?_) (a' := ?_) (bs 40 8589934591) rfl rfl (any_of HT_.out (by kernel_rfl)) (fun _ _ _ h => h) (Or.inl ⟨by rfl, ?_⟩) ?_ ?_
            rotate_left
            ·intro w'
             go_simp
             with_reducible rfl
            rotate_left
            ·simp only [aS, i64_w, i32_w]
             rfl
            refine pure_ (i := 33) (N := some 75) (v := ?_) (a' := ?_) (bs 40 17179869183) rfl rfl (any_of HT_.out (by kernel_rfl)) (fun _ _ _ h => h) (Or.inl ⟨by rfl, ?_⟩) ?_ ?_
            rotate_left
            ·intro w'
             go_simp
             with_reducible rfl
            rotate_left
            ·simp only [aS, i64_w, i32_w]
             rfl
            refine pure_ (i := 34) (N := some 76) (v := undef) (a' := ?_) (bs 40 34359738367) rfl rfl (any_of HT_.out (by kernel_rfl)) (fun _ _ _ h => h) (Or.inr ⟨by rfl, rfl⟩) ?_ ?_
            rotate_left
            ·simp only [aS, i64_w, i32_w]
             rfl
            refine pure_ (i := 35) (N := some 77) (v := undef) (a' := ?_) (bs 40 68719476735) rfl rfl (any_of HT_.out (by kernel_rfl)) (fun _ _ _ h => h) (Or.inr ⟨by rfl, rfl⟩) ?_ ?_
            rotate_left
            ·simp only [aS, i64_w, i32_w]
             rfl
            refine pure_ (i := 36) (N := some 78) (v := undef) (a' := ?_) (bs 40 137438953471) rfl rfl (any_of HT_.out (by kernel_rfl)) (fun _ _ _ h => h) (Or.inr ⟨by rfl, rfl⟩) ?_ ?_
            rotate_left
            ·simp only [aS, i64_w, i32_w]
             rfl
            refine pure_ (i := 37) (N := some 79) (v := ?_) (a' := ?_) (bs 40 274877906943) rfl rfl (any_of HT_.out (by kernel_rfl)) (fun _ _ _ h => h) (Or.inl ⟨by rfl, ?_⟩) ?_ ?_
            rotate_left
            ·intro w'
             go_simp
             with_reducible rfl
            rotate_left
            ·simp only [aS, i64_w, i32_w]
             rfl
            refine pure_ (i := 38) (N := some 80) (v := ?_) (a' := ?_) (bs 40 549755813887) rfl rfl (any_of HT_.out (by kernel_rfl)) (fun _ _ _ h => h) (Or.inl ⟨by rfl, ?_⟩) ?_ ?_
            rotate_left
            ·intro w'
             go_simp
             with_reducible rfl
            rotate_left
            ·simp only [aS, i64_w, i32_w]
             rfl
            refine pure_ (i := 39) (N := some 81) (v := ?_) (a' := ?_) (bs 40 1099511627775) rfl rfl (any_of HT_.out (by kernel_rfl)) (fun _ _ _ h => h) (Or.inl ⟨by rfl, ?_⟩) ?_ ?_
            rotate_left
            ·intro w'
             go_simp
             with_reducible rfl
            rotate_left
            ·simp only [aS, i64_w, i32_w]
             rfl
            refine done_ (done_of HT_.out (by kernel_rfl)) ?_
            try go_wp2
            go_meet
            case rel => exact ⟨_, (true), (by first | rfl | (simp; done) | (simp [*]; done)), H', ⟨by have := HJ5.out; have := HJ10.out; first | omega | exact Nat.le_refl _⟩, ⟨by repeat (first | (with_reducible first | exact HB.out | apply below_alloc | apply pw_below_drewN | apply below_drew1) | exact HB.out)⟩⟩
      case rest =>
       clear HC15
       try clear c1
       try clear p2
       try clear q2
       try clear c4
       try clear c13
       try clear c14
       try clear q24
       try clear c45
       try clear c45b0
       try clear c45b1
       try clear q241
       obtain ⟨kq, x81_14, rfl, HA, HJ14, HB⟩ := hcut
       cases kq with
       | zero => exact absurd HA.out (by simp [clapperlaw11_RevokeTells.j2])
       | succ kj14 =>
        have H := HA.out
        clear HA
        simp only [clapperlaw11_RevokeTells.j2] at H
        by_cases c53 : x81_14 = true
        ·subst c53
         have H1 : (some false) = some r := by rw [if_pos rfl] at H; exact H
         clear H
         have H := H1
         clear H1
         exact absurd H (by rw [HT_.out]; simp)
        ·replace c53 := Bool.eq_false_iff.mpr c53
         subst c53
         have H1 : ((revoke_Parse.f kj14 l3).bind fun bt242 => ((clapperref11_Parse.f kj14 l3).bind fun bt246 => (if bt246.2 = true then (if t230 = true then (if bt242.2.isNone = true then ((clapperref11_Same.f kj14 bt242.1 bt246.1).bind fun t251 => (some t251)) else (some false)) else (some false)) else (if t230 = true then (if bt242.2.isNone = true then (some false) else (if (bt242.2.getD 0) = 2 then (some ((bt242.1.length : Int) == 0)) else (some false))) else (some false))))) = some r := by rw [if_neg (show ¬ (false = true) by decide)] at H; exact H
         clear H
         have H := H1
         clear H1
         replace H := Option.bind_eq_some_iff.mp H
         obtain ⟨⟨t242, t243⟩, A540, H⟩ := H
         replace H : ((clapperref11_Parse.f kj14 l3).bind fun bt246 => (if bt246.2 = true then (if t230 = true then (if t243.isNone = true then ((clapperref11_Same.f kj14 t242 bt246.1).bind fun t251 => (some t251)) else (some false)) else (some false)) else (if t230 = true then (if t243.isNone = true then (some false) else (if (t243.getD 0) = 2 then (some ((t242.length : Int) == 0)) else (some false))) else (some false)))) = some r := H
         have A54 := Aside0.mk A540
         clear A540
         replace H := Option.bind_eq_some_iff.mp H
         obtain ⟨⟨t246, t247⟩, A550, H⟩ := H
         replace H : (if t247 = true then (if t230 = true then (if t243.isNone = true then ((clapperref11_Same.f kj14 t242 t246).bind fun t251 => (some t251)) else (some false)) else (some false)) else (if t230 = true then (if t243.isNone = true then (some false) else (if (t243.getD 0) = 2 then (some ((t242.length : Int) == 0)) else (some false))) else (some false))) = some r := H
         have A55 := Aside0.mk A550
         clear A550
         by_cases c56 : t247 = true
         ·subst c56
          have H1 : (if t230 = true then (if t243.isNone = true then ((clapperref11_Same.f kj14 t242 t246).bind fun t251 => (some t251)) else (some false)) else (some false)) = some r := by rw [if_pos rfl] at H; exact H
          clear H
          have H := H1
          clear H1
          by_cases c57 : t230 = true
          ·subst c57
           have H1 : (if t243.isNone = true then ((clapperref11_Same.f kj14 t242 t246).bind fun t251 => (some t251)) else (some false)) = some r := by rw [if_pos rfl] at H; exact H
           clear H
           have H := H1
           clear H1
           rcases t243 with _ | q250
           ·have H1 : ((clapperref11_Same.f kj14 t242 t246).bind fun t251 => (some t251)) = some r := by rw [if_pos (show (none : Option Int).isNone = true by rfl)] at H; exact H
            clear H
            have H := H1
            clear H1
            try simp only [errW_none, errW_some]
            replace H := Option.bind_eq_some_iff.mp H
            obtain ⟨t251, A580, H⟩ := H
            replace H : (some t251) = some r := H
            have A58 := Aside0.mk A580
            clear A580
            obtain rfl := Option.some.inj H
            go_wp2_with (first | ((with_reducible refine gate_callee (f := 16) rfl ?_); refine goesL_ (some 84) rfl rfl Try.func16 (by kernel_rfl) rfl #[.slice A3 l3.length c3] rfl (by (try simp only [List.map_toArray, List.map_cons, List.map_nil]); first | done | rfl | (simp only [List.length_drop, List.length_take]; rfl)) ?_; (with_reducible refine (revoke_Parse.calls kj14 _ _ l3 t242 none _ ?side1 ?side2 A54.out).mono ?_); (case side1 => repeat (first | exact (Kd.C_below HR3.out HB.out) | (with_reducible refine Kd.C_alloc ?_ _) | (with_reducible refine Kd.C_drewN ?_ _) | (with_reducible refine Kd.C_drew ?_))); (case side2 => exact HC3.out); rintro e w59 ⟨v244, rfl, ho0, hb⟩; refine ⟨_, rfl, ?_⟩; have n0_ := Aside0.mk (Kd.R_lower ho0 (below_size (by repeat (first | (with_reducible first | exact HB.out | apply below_alloc | apply pw_below_drewN | apply below_drew1) | exact HB.out)))); have n1_ := Aside0.mk (below_step (by repeat (first | (with_reducible first | exact HB.out | apply below_alloc | apply pw_below_drewN | apply below_drew1) | exact HB.out)) hb); clear HB; have HO245 := n0_; have HB := n1_; clear n0_ n1_; (try clear hb); (try clear hb2); (try clear hk); (try clear hi); (try clear ho0); (try simp only [errW_none, errW_some])) | ((with_reducible refine gate_callee (f := 17) rfl ?_); refine goesL_ (some 89) rfl rfl Try.func17 (by kernel_rfl) rfl #[.slice A3 l3.length c3] rfl (by (try simp only [List.map_toArray, List.map_cons, List.map_nil]); first | done | rfl | (simp only [List.length_drop, List.length_take]; rfl)) ?_; (with_reducible refine (clapperref11_Parse.calls kj14 _ _ l3 t246 true _ ?side1 ?side2 A55.out).mono ?_); (case side1 => repeat (first | exact (Kd.C_below HR3.out HB.out) | (with_reducible refine Kd.C_alloc ?_ _) | (with_reducible refine Kd.C_drewN ?_ _) | (with_reducible refine Kd.C_drew ?_))); (case side2 => exact HC3.out); rintro e w60 ⟨v248, rfl, ho0, hb⟩; refine ⟨_, rfl, ?_⟩; have n0_ := Aside0.mk (Kd.R_elder' (by (with_reducible repeat (first | apply Kd.R_alloc | apply Kd.R_drewN | apply Kd.R_drew)); exact HO245.out) (Kd.R_base ho0) hb); have n1_ := Aside0.mk (Kd.R_lower (Kd.R_new' ho0 (Kd.R_lt (by (with_reducible repeat (first | apply Kd.R_alloc | apply Kd.R_drewN | apply Kd.R_drew)); exact HO245.out))) (below_size (by repeat (first | (with_reducible first | exact HB.out | apply below_alloc | apply pw_below_drewN | apply below_drew1) | exact HB.out)))); have n2_ := Aside0.mk (below_step (by repeat (first | (with_reducible first | exact HB.out | apply below_alloc | apply pw_below_drewN | apply below_drew1) | exact HB.out)) hb); clear HO245; clear HB; have HO245 := n0_; have HO249 := n1_; have HB := n2_; clear n0_ n1_ n2_; (try clear hb); (try clear hb2); (try clear hk); (try clear hi); (try clear ho0); obtain ⟨Ao61, co61, eo61⟩ := Kd.R_slice HO245.out; subst eo61; obtain ⟨Ao62, co62, eo62⟩ := Kd.R_slice HO249.out; subst eo62) | (go_at_call 10; (with_reducible refine (clapperref11_Same.calls kj14 _ _ t242 _ _ t246 t251 _ ?side1 ?side2 ?side3 ?side4 A58.out).mono ?_); (case side1 => repeat (first | exact (Kd.R_reads' HO245.out).2.2 | (with_reducible refine Kd.C_alloc ?_ _) | (with_reducible refine Kd.C_drewN ?_ _) | (with_reducible refine Kd.C_drew ?_))); (case side2 => exact (Kd.R_reads' HO245.out).2.1); (case side3 => repeat (first | exact (Kd.R_reads' HO249.out).2.2 | (with_reducible refine Kd.C_alloc ?_ _) | (with_reducible refine Kd.C_drewN ?_ _) | (with_reducible refine Kd.C_drew ?_))); (case side4 => exact (Kd.R_reads' HO249.out).2.1); rintro e w' ⟨rfl, ⟨nd, rfl⟩⟩; (try (rw [drewN_self w60]; generalize hq_ : World.drewN w60 _ = w60; have n0_ : Aside0 (Kd.R k43 43 w60 w.heap.size (fun k_ => some k_ ≠ (.slice Ao62 t246.length co62 : Value).ownBlock) (.slice Ao61 t242.length co61) t242) := ⟨by rw [← hq_]; exact (by (with_reducible repeat (first | apply Kd.R_alloc | apply Kd.R_drewN | apply Kd.R_drew)); exact Kd.R_mono HO245.out (fun _ hk => hk.2))⟩; have n1_ : Aside0 (Kd.R k43 43 w60 w.heap.size (fun k_ => some k_ ≠ (.slice Ao61 t242.length co61 : Value).ownBlock) (.slice Ao62 t246.length co62) t246) := ⟨by rw [← hq_]; exact (by (with_reducible repeat (first | apply Kd.R_alloc | apply Kd.R_drewN | apply Kd.R_drew)); exact Kd.R_mono HO249.out (fun _ hk => hk.2))⟩; have n2_ : Aside0 (Below w.heap.size w w60) := ⟨by rw [← hq_]; exact (by repeat (first | (with_reducible first | exact HB.out | apply below_alloc | apply pw_below_drewN | apply below_drew1) | exact HB.out))⟩; clear HO245 HO249 HB hq_; have HO245 := n0_; have HO249 := n1_; have HB := n2_; clear n0_ n1_ n2_))))
            go_ret
            exact ⟨by first | rfl | (simp [errW_none, errW_some] <;> rfl) | (simp [*, errW_none, errW_some] <;> rfl), by repeat (first | (with_reducible first | exact HB.out | apply below_alloc | apply pw_below_drewN | apply below_drew1) | exact HB.out)⟩
           ·have H1 : (some false) = some r := by rw [if_neg (show ¬ (some q250).isNone = true by simp)] at H; exact H
            clear H
            have H := H1
            clear H1
            try simp only [errW_none, errW_some]
            exact absurd H (by rw [HT_.out]; simp)
          ·replace c57 := Bool.eq_false_iff.mpr c57
           subst c57
           have H1 : (some false) = some r := by rw [if_neg (show ¬ (false = true) by decide)] at H; exact H
           clear H
           have H := H1
           clear H1
           exact absurd H (by rw [HT_.out]; simp)
         ·replace c56 := Bool.eq_false_iff.mpr c56
          subst c56
          have H1 : (if t230 = true then (if t243.isNone = true then (some false) else (if (t243.getD 0) = 2 then (some ((t242.length : Int) == 0)) else (some false))) else (some false)) = some r := by rw [if_neg (show ¬ (false = true) by decide)] at H; exact H
          clear H
          have H := H1
          clear H1
          by_cases c63 : t230 = true
          ·subst c63
           have H1 : (if t243.isNone = true then (some false) else (if (t243.getD 0) = 2 then (some ((t242.length : Int) == 0)) else (some false))) = some r := by rw [if_pos rfl] at H; exact H
           clear H
           have H := H1
           clear H1
           rcases t243 with _ | q252
           ·have H1 : (some false) = some r := by rw [if_pos (show (none : Option Int).isNone = true by rfl)] at H; exact H
            clear H
            have H := H1
            clear H1
            try simp only [errW_none, errW_some]
            exact absurd H (by rw [HT_.out]; simp)
           ·have H1 : (if q252 = 2 then (some ((t242.length : Int) == 0)) else (some false)) = some r := by rw [if_neg (show ¬ (some q252).isNone = true by simp)] at H; exact H
            clear H
            have H := H1
            clear H1
            try simp only [errW_none, errW_some]
            by_cases c64 : q252 = 2
            ·rw [if_pos c64] at H
             have c64b0 : (q252 == 2) = true := beq_iff_eq.mpr c64
             have c64b1 : (q252 != 2) = false := bne_eq_false_iff_eq.mpr c64
             clear c64
             obtain rfl := Option.some.inj H
             go_wp2_with (first | ((with_reducible refine gate_callee (f := 16) rfl ?_); refine goesL_ (some 84) rfl rfl Try.func16 (by kernel_rfl) rfl #[.slice A3 l3.length c3] rfl (by (try simp only [List.map_toArray, List.map_cons, List.map_nil]); first | done | rfl | (simp only [List.length_drop, List.length_take]; rfl)) ?_; (with_reducible refine (revoke_Parse.calls kj14 _ _ l3 t242 (some q252) _ ?side1 ?side2 A54.out).mono ?_); (case side1 => repeat (first | exact (Kd.C_below HR3.out HB.out) | (with_reducible refine Kd.C_alloc ?_ _) | (with_reducible refine Kd.C_drewN ?_ _) | (with_reducible refine Kd.C_drew ?_))); (case side2 => exact HC3.out); rintro e w65 ⟨v244, rfl, ho0, hb⟩; refine ⟨_, rfl, ?_⟩; have n0_ := Aside0.mk (Kd.R_lower ho0 (below_size (by repeat (first | (with_reducible first | exact HB.out | apply below_alloc | apply pw_below_drewN | apply below_drew1) | exact HB.out)))); have n1_ := Aside0.mk (below_step (by repeat (first | (with_reducible first | exact HB.out | apply below_alloc | apply pw_below_drewN | apply below_drew1) | exact HB.out)) hb); clear HB; have HO245 := n0_; have HB := n1_; clear n0_ n1_; (try clear hb); (try clear hb2); (try clear hk); (try clear hi); (try clear ho0); (try simp only [errW_none, errW_some])) | ((with_reducible refine gate_callee (f := 17) rfl ?_); refine goesL_ (some 89) rfl rfl Try.func17 (by kernel_rfl) rfl #[.slice A3 l3.length c3] rfl (by (try simp only [List.map_toArray, List.map_cons, List.map_nil]); first | done | rfl | (simp only [List.length_drop, List.length_take]; rfl)) ?_; (with_reducible refine (clapperref11_Parse.calls kj14 _ _ l3 t246 false _ ?side1 ?side2 A55.out).mono ?_); (case side1 => repeat (first | exact (Kd.C_below HR3.out HB.out) | (with_reducible refine Kd.C_alloc ?_ _) | (with_reducible refine Kd.C_drewN ?_ _) | (with_reducible refine Kd.C_drew ?_))); (case side2 => exact HC3.out); rintro e w66 ⟨v248, rfl, ho0, hb⟩; refine ⟨_, rfl, ?_⟩; have n0_ := Aside0.mk (Kd.R_elder' (by (with_reducible repeat (first | apply Kd.R_alloc | apply Kd.R_drewN | apply Kd.R_drew)); exact HO245.out) (Kd.R_base ho0) hb); have n1_ := Aside0.mk (Kd.R_lower (Kd.R_new' ho0 (Kd.R_lt (by (with_reducible repeat (first | apply Kd.R_alloc | apply Kd.R_drewN | apply Kd.R_drew)); exact HO245.out))) (below_size (by repeat (first | (with_reducible first | exact HB.out | apply below_alloc | apply pw_below_drewN | apply below_drew1) | exact HB.out)))); have n2_ := Aside0.mk (below_step (by repeat (first | (with_reducible first | exact HB.out | apply below_alloc | apply pw_below_drewN | apply below_drew1) | exact HB.out)) hb); clear HO245; clear HB; have HO245 := n0_; have HO249 := n1_; have HB := n2_; clear n0_ n1_ n2_; (try clear hb); (try clear hb2); (try clear hk); (try clear hi); (try clear ho0); obtain ⟨Ao67, co67, eo67⟩ := Kd.R_slice HO245.out; subst eo67))
             go_ret
             exact ⟨by first | rfl | (simp [errW_none, errW_some] <;> rfl) | (simp [*, errW_none, errW_some] <;> rfl), by repeat (first | (with_reducible first | exact HB.out | apply below_alloc | apply pw_below_drewN | apply below_drew1) | exact HB.out)⟩
            ·rw [if_neg c64] at H
             have c64b0 : (q252 == 2) = false := beq_eq_false_iff_ne.mpr c64
             have c64b1 : (q252 != 2) = true := bne_iff_ne.mpr c64
             exact absurd H (by rw [HT_.out]; simp)
          ·replace c63 := Bool.eq_false_iff.mpr c63
           subst c63
           have H1 : (some false) = some r := by rw [if_neg (show ¬ (false = true) by decide)] at H; exact H
           clear H
           have H := H1
           clear H1
           exact absurd H (by rw [HT_.out]; simp)
end Go.Proofs.Ytkaeoeebagndaaa.PRevokeTells
