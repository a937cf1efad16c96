-- Laid by a program of the session (mkprint2.py): the kit's printer, and contracts by hand among what it prints.
import Derived.Test.YtikdfamhgopcdaaPTlvNumbersx0
import Derived.Test.YtikdfamhgopcdaaPTlvNumbersx3
namespace Go.Proofs.Ytikdfamhgopcdaa.PTlvNumbers
open Go.RowKit Go.Proofs.YtikdfamhgopcdaaW.PrintWords Go.Proofs.YtikdfamhgopcdaaW.PrintLast Go.Proofs.YtikdfamhgopcdaaW.PrintMore
attribute [local go_sem] max2_int min2_int max_two min_two max_three min_three max_four min_four   -- for this text's walks alone
set_option linter.unusedVariables false
set_option linter.unusedSimpArgs false

attribute [local go_sem high] u8_w cast_tmod eql_code neq_code eql_code_nil neq_code_nil eql_nil_code neq_nil_code
/-! ### clapperlaw08_TlvNumbers: function 6 -/
mutual
def clapperlaw08_TlvNumbers.j0 : Nat → Int → Bool → Bool → Option (Bool)
  | 0, _, _, _ => none
  | k + 1, x0, x5, x43 => if x43 = true then (some false) else ((tlv_Number.f k x0).bind fun t154 => (if x0 < 0 then ((clapperref08_Number.f k (wrap64 (-(wrap64 (x0 + 1))))).bind fun t157 => (clapperlaw08_TlvNumbers.l0 k x5 t154 t157 0)) else (if x5 = true then ((clapperref08_Number.f k x0).bind fun t159 => (some ((strOfNums t154).toList == t159.toList))) else (some false))))
def clapperlaw08_TlvNumbers.l0 : Nat → Bool → List Int → ByteArray → Int → Option (Bool)
  | 0, _, _, _, _ => none
  | k + 1, x5, x9, x10, x11 => if x11 < (x9.length : Int) then (clapperlaw08_TlvNumbers.j2 k x5 x9 x10 x11 (decide (x11 < 8))) else (clapperlaw08_TlvNumbers.j2 k x5 x9 x10 x11 false)
def clapperlaw08_TlvNumbers.j2 : Nat → Bool → List Int → ByteArray → Int → Bool → Option (Bool)
  | 0, _, _, _, _, _ => none
  | k + 1, x5, x9, x10, x11, x59 => if x59 = true then (if 0 ≤ x11 then (if x11 < (x9.length : Int) then (if x11 < (x10.size : Int) then (if (rd x9 x11) = ((255 - (bt x10 x11)) % 256) then (clapperlaw08_TlvNumbers.l0 k x5 x9 x10 (wrap64 (x11 + 1))) else (some false)) else (none)) else (none)) else (none)) else (if x5 = true then (some ((x9.length : Int) == 8)) else (some false))
end
def clapperlaw08_TlvNumbers.f (k : Nat) (a0 : Int) (l1 : List Int) : Option (Bool) := (clapperlaw08_up.f).bind fun t148 => ((tlv_Of.f k l1).bind fun bt149 => ((clapperref08_Of.f k l1).bind fun t151 => (if t151 < 0 then (if bt149.2.isNone = true then (clapperlaw08_TlvNumbers.j0 k a0 t148 true) else (if (bt149.2.getD 0) = 2 then (if bt149.1 = 0 then (if t151 ≥ 0 then (clapperlaw08_TlvNumbers.j0 k a0 t148 true) else (clapperlaw08_TlvNumbers.j0 k a0 t148 false)) else (clapperlaw08_TlvNumbers.j0 k a0 t148 true)) else (clapperlaw08_TlvNumbers.j0 k a0 t148 true))) else (if t151 ≥ 0 then (if bt149.2.isNone = true then (clapperlaw08_TlvNumbers.j0 k a0 t148 (bt149.1 != t151)) else (clapperlaw08_TlvNumbers.j0 k a0 t148 true)) else (clapperlaw08_TlvNumbers.j0 k a0 t148 false)))))
theorem clapperlaw08_TlvNumbers.mono_l : ∀ k, (∀ y0 y1 y2, LeO (clapperlaw08_TlvNumbers.j0 k y0 y1 y2) (clapperlaw08_TlvNumbers.j0 (k + 1) y0 y1 y2)) ∧ (∀ y0 y1 y2 y3, LeO (clapperlaw08_TlvNumbers.l0 k y0 y1 y2 y3) (clapperlaw08_TlvNumbers.l0 (k + 1) y0 y1 y2 y3)) ∧ (∀ y0 y1 y2 y3 y4, LeO (clapperlaw08_TlvNumbers.j2 k y0 y1 y2 y3 y4) (clapperlaw08_TlvNumbers.j2 (k + 1) y0 y1 y2 y3 y4))
  | 0 => ⟨fun _ _ _ r h => by simp [clapperlaw08_TlvNumbers.j0] at h, fun _ _ _ _ r h => by simp [clapperlaw08_TlvNumbers.l0] at h, fun _ _ _ _ _ r h => by simp [clapperlaw08_TlvNumbers.j2] at h⟩
  | k + 1 => by
    obtain ⟨ih0, ih1, ih2⟩ := clapperlaw08_TlvNumbers.mono_l k
    refine ⟨?_, ?_, ?_⟩
    · intro y0 y1 y2
      unfold clapperlaw08_TlvNumbers.j0
      repeat' first
      | (with_reducible exact ih0 _ _ _)
      | (with_reducible exact ih1 _ _ _ _)
      | (with_reducible exact ih2 _ _ _ _ _)
      | (with_reducible exact clapperref08_Number.mono _ _)
      | (with_reducible exact clapperref08_Of.mono _ _)
      | (with_reducible exact tlv_Number.mono _ _)
      | (with_reducible exact tlv_Of.mono _ _)
      | (with_reducible exact LeO.refl _)
      | (with_reducible exact LeO.none _)
      | (with_reducible refine LeO.ite ?_ ?_)
      | (with_reducible refine LeO.bind ?_ (fun _ => ?_))
      | exact ih0 _ _ _
      | exact ih1 _ _ _ _
      | exact ih2 _ _ _ _ _
      | exact clapperref08_Number.mono _ _
      | exact clapperref08_Of.mono _ _
      | exact tlv_Number.mono _ _
      | exact tlv_Of.mono _ _
      | exact LeO.none _
      | refine LeO.ite ?_ ?_
      | refine LeO.bind ?_ (fun _ => ?_)
    · intro y0 y1 y2 y3
      unfold clapperlaw08_TlvNumbers.l0
      repeat' first
      | (with_reducible exact ih0 _ _ _)
      | (with_reducible exact ih1 _ _ _ _)
      | (with_reducible exact ih2 _ _ _ _ _)
      | (with_reducible exact clapperref08_Number.mono _ _)
      | (with_reducible exact clapperref08_Of.mono _ _)
      | (with_reducible exact tlv_Number.mono _ _)
      | (with_reducible exact tlv_Of.mono _ _)
      | (with_reducible exact LeO.refl _)
      | (with_reducible exact LeO.none _)
      | (with_reducible refine LeO.ite ?_ ?_)
      | (with_reducible refine LeO.bind ?_ (fun _ => ?_))
      | exact ih0 _ _ _
      | exact ih1 _ _ _ _
      | exact ih2 _ _ _ _ _
      | exact clapperref08_Number.mono _ _
      | exact clapperref08_Of.mono _ _
      | exact tlv_Number.mono _ _
      | exact tlv_Of.mono _ _
      | exact LeO.none _
      | refine LeO.ite ?_ ?_
      | refine LeO.bind ?_ (fun _ => ?_)
    · intro y0 y1 y2 y3 y4
      unfold clapperlaw08_TlvNumbers.j2
      repeat' first
      | (with_reducible exact ih0 _ _ _)
      | (with_reducible exact ih1 _ _ _ _)
      | (with_reducible exact ih2 _ _ _ _ _)
      | (with_reducible exact clapperref08_Number.mono _ _)
      | (with_reducible exact clapperref08_Of.mono _ _)
      | (with_reducible exact tlv_Number.mono _ _)
      | (with_reducible exact tlv_Of.mono _ _)
      | (with_reducible exact LeO.refl _)
      | (with_reducible exact LeO.none _)
      | (with_reducible refine LeO.ite ?_ ?_)
      | (with_reducible refine LeO.bind ?_ (fun _ => ?_))
      | exact ih0 _ _ _
      | exact ih1 _ _ _ _
      | exact ih2 _ _ _ _ _
      | exact clapperref08_Number.mono _ _
      | exact clapperref08_Of.mono _ _
      | exact tlv_Number.mono _ _
      | exact tlv_Of.mono _ _
      | exact LeO.none _
      | refine LeO.ite ?_ ?_
      | refine LeO.bind ?_ (fun _ => ?_)
theorem clapperlaw08_TlvNumbers.mono : ∀ a0 a1 k, LeO (clapperlaw08_TlvNumbers.f k a0 a1) (clapperlaw08_TlvNumbers.f (k + 1) a0 a1) := by
  intro a0 a1 k
  obtain ⟨ih0, ih1, ih2⟩ := clapperlaw08_TlvNumbers.mono_l k
  unfold clapperlaw08_TlvNumbers.f
  repeat' first
      | (with_reducible exact ih0 _ _ _)
      | (with_reducible exact ih1 _ _ _ _)
      | (with_reducible exact ih2 _ _ _ _ _)
      | (with_reducible exact clapperref08_Number.mono _ _)
      | (with_reducible exact clapperref08_Of.mono _ _)
      | (with_reducible exact tlv_Number.mono _ _)
      | (with_reducible exact tlv_Of.mono _ _)
      | (with_reducible exact LeO.refl _)
      | (with_reducible exact LeO.none _)
      | (with_reducible refine LeO.ite ?_ ?_)
      | (with_reducible refine LeO.bind ?_ (fun _ => ?_))
      | exact ih0 _ _ _
      | exact ih1 _ _ _ _
      | exact ih2 _ _ _ _ _
      | exact clapperref08_Number.mono _ _
      | exact clapperref08_Of.mono _ _
      | exact tlv_Number.mono _ _
      | exact tlv_Of.mono _ _
      | exact LeO.none _
      | refine LeO.ite ?_ ?_
      | refine LeO.bind ?_ (fun _ => ?_)
def clapperlaw08_TlvNumbers.T12 : Bool × List (List Nat × List Nat) := (true, [([], []), ([], []), ([0, 1], [0, 1]), ([2], [2]), ([], []), ([], []), ([4, 5], [4, 5]), ([6], [6]), ([3, 7], [3, 7])])
def clapperlaw08_TlvNumbers.B12 : List Nat := [0, 0, 3, 7, 0, 0, 48, 112, 255]
theorem clapperlaw08_TlvNumbers.tab12 : rtab .any (opsOf Try.f6 12) = clapperlaw08_TlvNumbers.T12 := by kernel_rfl
theorem clapperlaw08_TlvNumbers.bits12 : waitsOk clapperlaw08_TlvNumbers.T12.2 clapperlaw08_TlvNumbers.B12 = true := by kernel_rfl
def clapperlaw08_TlvNumbers.T15 : Bool × List (List Nat × List Nat) := (true, [([], []), ([0], [0]), ([1], [1]), ([2, 1], [1, 2]), ([1], [1]), ([4, 1, 1], [1, 4]), ([3, 5, 1], [1, 3, 5]), ([1, 6], [1, 6]), ([7, 5, 0, 1, 2, 3, 4, 5, 6, 7], [7])])
def clapperlaw08_TlvNumbers.B15 : List Nat := [0, 1, 3, 7, 3, 19, 63, 127, 255]
theorem clapperlaw08_TlvNumbers.tab15 : rtab .any (opsOf Try.f6 15) = clapperlaw08_TlvNumbers.T15 := by kernel_rfl
theorem clapperlaw08_TlvNumbers.bits15 : waitsOk clapperlaw08_TlvNumbers.T15.2 clapperlaw08_TlvNumbers.B15 = true := by kernel_rfl
set_option maxHeartbeats 8000000 in
set_option maxRecDepth 100000 in
theorem clapperlaw08_TlvNumbers.calls (k : Nat) (a0 : Int) (A1 : Option Addr) (c1 : Nat) (l1 : List Int) (r : Bool) (w : World) (hr1 : Kd.C (Kd.int .u8) w A1 l1.length l1) (hc1 : l1.length ≤ c1) (hr_ : r = true) (h : clapperlaw08_TlvNumbers.f k a0 l1 = some r) :
    Calls Try.prog 6 #[.int .i64 a0, .slice A1 l1.length c1] w fun e w' => e = .returned (.bool r) ∧ Below w.heap.size w w' := by
  have hu25 := Try.underlying25
  have hu29 := Try.underlying29
  have HR1 := Aside0.mk hr1
  have HC1 := Aside0.mk hc1
  clear hr1 hc1
  have HB := Aside0.mk (Below.refl w.heap.size w)
  have HT_ := Aside0.mk hr_
  clear hr_
  have H : ((clapperlaw08_up.f).bind fun t148 => ((tlv_Of.f k l1).bind fun bt149 => ((clapperref08_Of.f k l1).bind fun t151 => (if t151 < 0 then (if bt149.2.isNone = true then (clapperlaw08_TlvNumbers.j0 k a0 t148 true) else (if (bt149.2.getD 0) = 2 then (if bt149.1 = 0 then (if t151 ≥ 0 then (clapperlaw08_TlvNumbers.j0 k a0 t148 true) else (clapperlaw08_TlvNumbers.j0 k a0 t148 false)) else (clapperlaw08_TlvNumbers.j0 k a0 t148 true)) else (clapperlaw08_TlvNumbers.j0 k a0 t148 true))) else (if t151 ≥ 0 then (if bt149.2.isNone = true then (clapperlaw08_TlvNumbers.j0 k a0 t148 (bt149.1 != t151)) else (clapperlaw08_TlvNumbers.j0 k a0 t148 true)) else (clapperlaw08_TlvNumbers.j0 k a0 t148 false)))))) = some r := h
  clear h
  replace H := Option.bind_eq_some_iff.mp H
  obtain ⟨t148, A30, H⟩ := H
  replace H : ((tlv_Of.f k l1).bind fun bt149 => ((clapperref08_Of.f k l1).bind fun t151 => (if t151 < 0 then (if bt149.2.isNone = true then (clapperlaw08_TlvNumbers.j0 k a0 t148 true) else (if (bt149.2.getD 0) = 2 then (if bt149.1 = 0 then (if t151 ≥ 0 then (clapperlaw08_TlvNumbers.j0 k a0 t148 true) else (clapperlaw08_TlvNumbers.j0 k a0 t148 false)) else (clapperlaw08_TlvNumbers.j0 k a0 t148 true)) else (clapperlaw08_TlvNumbers.j0 k a0 t148 true))) else (if t151 ≥ 0 then (if bt149.2.isNone = true then (clapperlaw08_TlvNumbers.j0 k a0 t148 (bt149.1 != t151)) else (clapperlaw08_TlvNumbers.j0 k a0 t148 true)) else (clapperlaw08_TlvNumbers.j0 k a0 t148 false))))) = some r := H
  have A3 := Aside0.mk A30
  clear A30
  replace H := Option.bind_eq_some_iff.mp H
  obtain ⟨⟨t149, t150⟩, A40, H⟩ := H
  replace H : ((clapperref08_Of.f k l1).bind fun t151 => (if t151 < 0 then (if t150.isNone = true then (clapperlaw08_TlvNumbers.j0 k a0 t148 true) else (if (t150.getD 0) = 2 then (if t149 = 0 then (if t151 ≥ 0 then (clapperlaw08_TlvNumbers.j0 k a0 t148 true) else (clapperlaw08_TlvNumbers.j0 k a0 t148 false)) else (clapperlaw08_TlvNumbers.j0 k a0 t148 true)) else (clapperlaw08_TlvNumbers.j0 k a0 t148 true))) else (if t151 ≥ 0 then (if t150.isNone = true then (clapperlaw08_TlvNumbers.j0 k a0 t148 (t149 != t151)) else (clapperlaw08_TlvNumbers.j0 k a0 t148 true)) else (clapperlaw08_TlvNumbers.j0 k a0 t148 false)))) = some r := H
  have A4 := Aside0.mk A40
  clear A40
  replace H := Option.bind_eq_some_iff.mp H
  obtain ⟨t151, A50, H⟩ := H
  replace H : (if t151 < 0 then (if t150.isNone = true then (clapperlaw08_TlvNumbers.j0 k a0 t148 true) else (if (t150.getD 0) = 2 then (if t149 = 0 then (if t151 ≥ 0 then (clapperlaw08_TlvNumbers.j0 k a0 t148 true) else (clapperlaw08_TlvNumbers.j0 k a0 t148 false)) else (clapperlaw08_TlvNumbers.j0 k a0 t148 true)) else (clapperlaw08_TlvNumbers.j0 k a0 t148 true))) else (if t151 ≥ 0 then (if t150.isNone = true then (clapperlaw08_TlvNumbers.j0 k a0 t148 (t149 != t151)) else (clapperlaw08_TlvNumbers.j0 k a0 t148 true)) else (clapperlaw08_TlvNumbers.j0 k a0 t148 false))) = some r := H
  have A5 := Aside0.mk A50
  clear A50
  have HC6 := Aside0.mk H
  clear H
  go_enter Try.func6, Try.ntmps6
  go_upto_region 4 with (first | ((with_reducible refine gate_callee (f := 15) rfl ?_); refine goesL_ (some 12) rfl rfl Try.func15 (by kernel_rfl) rfl #[] rfl (by (try simp only [List.map_toArray, List.map_cons, List.map_nil]); first | done | rfl | (simp only [List.length_drop, List.length_take]; rfl)) ?_; (with_reducible refine (clapperlaw08_up.calls  t148 _ A3.out).mono ?_); rintro e w7 ⟨rfl, hb⟩; refine ⟨_, rfl, ?_⟩; have n0_ := Aside0.mk (below_step (by repeat (first | (with_reducible first | exact HB.out | apply below_alloc | apply pw_below_drewN | apply below_drew1) | exact HB.out)) hb); clear HB; have HB := n0_; clear n0_; (try clear hb); (try clear hb2); (try clear hk); (try clear hi)) | ((with_reducible refine gate_callee (f := 23) rfl ?_); refine goesL_ (some 15) rfl rfl Try.func23 (by kernel_rfl) rfl #[.slice A1 l1.length c1] rfl (by (try simp only [List.map_toArray, List.map_cons, List.map_nil]); first | done | rfl | (simp only [List.length_drop, List.length_take]; rfl)) ?_; (with_reducible refine (tlv_Of.calls k _ _ l1 t149 t150 _ ?side1 ?side2 A4.out).mono ?_); (case side1 => repeat (first | exact (Kd.C_below HR1.out HB.out) | (with_reducible refine Kd.C_alloc ?_ _) | (with_reducible refine Kd.C_drewN ?_ _) | (with_reducible refine Kd.C_drew ?_))); (case side2 => exact HC1.out); rintro e w' ⟨rfl, ⟨nd, rfl⟩⟩; refine ⟨_, rfl, ?_⟩; (try simp only [errW_none, errW_some]); (try (rw [drewN_self w7]; generalize hq_ : World.drewN w7 _ = w7; have n0_ : Aside0 (Below w.heap.size w w7) := ⟨by rw [← hq_]; exact (by repeat (first | (with_reducible first | exact HB.out | apply below_alloc | apply pw_below_drewN | apply below_drew1) | exact HB.out))⟩; clear HB hq_; have HB := n0_; clear n0_))) | ((with_reducible refine gate_callee (f := 24) rfl ?_); refine goesL_ (some 19) rfl rfl Try.func24 (by kernel_rfl) rfl #[.slice A1 l1.length c1] rfl (by (try simp only [List.map_toArray, List.map_cons, List.map_nil]); first | done | rfl | (simp only [List.length_drop, List.length_take]; rfl)) ?_; (with_reducible refine (clapperref08_Of.calls k _ _ l1 t151 _ ?side1 ?side2 A5.out).mono ?_); (case side1 => repeat (first | exact (Kd.C_below HR1.out HB.out) | (with_reducible refine Kd.C_alloc ?_ _) | (with_reducible refine Kd.C_drewN ?_ _) | (with_reducible refine Kd.C_drew ?_))); (case side2 => exact HC1.out); rintro e w' ⟨rfl, ⟨nd, rfl⟩⟩; refine ⟨_, rfl, ?_⟩; (try (rw [drewN_self w7]; generalize hq_ : World.drewN w7 _ = w7; have n0_ : Aside0 (Below w.heap.size w w7) := ⟨by rw [← hq_]; exact (by repeat (first | (with_reducible first | exact HB.out | apply below_alloc | apply pw_below_drewN | apply below_drew1) | exact HB.out))⟩; clear HB hq_; have HB := n0_; clear n0_))))
  (try simp only [Act.put, List.setIfInBounds_toArray, List.set_cons_zero, List.set_cons_succ])
  go_cut [43] (fun v43 wc => ∃ (kq : Nat) (x43_5 : Bool), v43 = .bool x43_5 ∧ Aside0 (clapperlaw08_TlvNumbers.j0 kq a0 t148 x43_5 = some r) ∧ Aside0 (kq ≤ k) ∧ Aside0 (Below w.heap.size w wc))
  case first =>
    have H := HC6.out
    clear HC6
    by_cases c8 : t151 < 0
    · rw [if_pos c8] at H
      have c8b0 : decide (t151 < 0) = true := decide_eq_true c8
      clear c8
      (first | rw [c8b0] | (simp only [i64_w, i32_w]; rw [c8b0]) | skip)
      rcases t150 with _ | q152
      · have H1 : (clapperlaw08_TlvNumbers.j0 k a0 t148 true) = some r := by rw [if_pos (show (none : Option Int).isNone = true by rfl)] at H; exact H
        clear H
        have H := H1
        clear H1
        try simp only [errW_none, errW_some]
        have H' := Aside0.mk H
        clear H
        go_wp2
        go_meet
        case rel => exact ⟨_, (true), (by first | rfl | (simp; done) | (simp [*]; done)), H', ⟨by first | omega | exact Nat.le_refl _⟩, ⟨by repeat (first | (with_reducible first | exact HB.out | apply below_alloc | apply pw_below_drewN | apply below_drew1) | exact HB.out)⟩⟩
      · have H1 : (if q152 = 2 then (if t149 = 0 then (if t151 ≥ 0 then (clapperlaw08_TlvNumbers.j0 k a0 t148 true) else (clapperlaw08_TlvNumbers.j0 k a0 t148 false)) else (clapperlaw08_TlvNumbers.j0 k a0 t148 true)) else (clapperlaw08_TlvNumbers.j0 k a0 t148 true)) = some r := by rw [if_neg (show ¬ (some q152).isNone = true by simp)] at H; exact H
        clear H
        have H := H1
        clear H1
        try simp only [errW_none, errW_some]
        by_cases c9 : q152 = 2
        · rw [if_pos c9] at H
          have c9b0 : (q152 == 2) = true := beq_iff_eq.mpr c9
          have c9b1 : (q152 != 2) = false := bne_eq_false_iff_eq.mpr c9
          clear c9
          by_cases c10 : t149 = 0
          · rw [if_pos c10] at H
            have c10b0 : (t149 == 0) = true := beq_iff_eq.mpr c10
            have c10b1 : (t149 != 0) = false := bne_eq_false_iff_eq.mpr c10
            clear c10
            by_cases c11 : t151 ≥ 0
            · rw [if_pos c11] at H
              have c11b0 : decide (0 ≤ t151) = true := decide_eq_true c11
              clear c11
              have H' := Aside0.mk H
              clear H
              go_wp2
              go_meet
              case rel => exact ⟨_, (true), (by first | rfl | (simp; done) | (simp [*]; done)), H', ⟨by first | omega | exact Nat.le_refl _⟩, ⟨by repeat (first | (with_reducible first | exact HB.out | apply below_alloc | apply pw_below_drewN | apply below_drew1) | exact HB.out)⟩⟩
            · rw [if_neg c11] at H
              have c11b0 : decide (0 ≤ t151) = false := decide_eq_false c11
              clear c11
              have H' := Aside0.mk H
              clear H
              go_wp2
              go_meet
              case rel => exact ⟨_, (false), (by first | rfl | (simp; done) | (simp [*]; done)), H', ⟨by first | omega | exact Nat.le_refl _⟩, ⟨by repeat (first | (with_reducible first | exact HB.out | apply below_alloc | apply pw_below_drewN | apply below_drew1) | exact HB.out)⟩⟩
          · rw [if_neg c10] at H
            have c10b0 : (t149 == 0) = false := beq_eq_false_iff_ne.mpr c10
            have c10b1 : (t149 != 0) = true := bne_iff_ne.mpr c10
            have H' := Aside0.mk H
            clear H
            go_wp2
            go_meet
            case rel => exact ⟨_, (true), (by first | rfl | (simp; done) | (simp [*]; done)), H', ⟨by first | omega | exact Nat.le_refl _⟩, ⟨by repeat (first | (with_reducible first | exact HB.out | apply below_alloc | apply pw_below_drewN | apply below_drew1) | exact HB.out)⟩⟩
        · rw [if_neg c9] at H
          have c9b0 : (q152 == 2) = false := beq_eq_false_iff_ne.mpr c9
          have c9b1 : (q152 != 2) = true := bne_iff_ne.mpr c9
          have H' := Aside0.mk H
          clear H
          go_wp2
          go_meet
          case rel => exact ⟨_, (true), (by first | rfl | (simp; done) | (simp [*]; done)), H', ⟨by first | omega | exact Nat.le_refl _⟩, ⟨by repeat (first | (with_reducible first | exact HB.out | apply below_alloc | apply pw_below_drewN | apply below_drew1) | exact HB.out)⟩⟩
    · rw [if_neg c8] at H
      have c8b0 : decide (t151 < 0) = false := decide_eq_false c8
      clear c8
      (first | rw [c8b0] | (simp only [i64_w, i32_w]; rw [c8b0]) | skip)
      by_cases c12 : t151 ≥ 0
      · rw [if_pos c12] at H
        have c12b0 : decide (0 ≤ t151) = true := decide_eq_true c12
        clear c12
        rcases t150 with _ | q153
        · have H1 : (clapperlaw08_TlvNumbers.j0 k a0 t148 (t149 != t151)) = some r := by rw [if_pos (show (none : Option Int).isNone = true by rfl)] at H; exact H
          clear H
          have H := H1
          clear H1
          try simp only [errW_none, errW_some]
          have H' := Aside0.mk H
          clear H
          go_wp2
          go_meet
          case rel => exact ⟨_, ((t149 != t151)), (by first | rfl | (simp; done) | (simp [*]; done)), H', ⟨by first | omega | exact Nat.le_refl _⟩, ⟨by repeat (first | (with_reducible first | exact HB.out | apply below_alloc | apply pw_below_drewN | apply below_drew1) | exact HB.out)⟩⟩
        · have H1 : (clapperlaw08_TlvNumbers.j0 k a0 t148 true) = some r := by rw [if_neg (show ¬ (some q153).isNone = true by simp)] at H; exact H
          clear H
          have H := H1
          clear H1
          try simp only [errW_none, errW_some]
          have H' := Aside0.mk H
          clear H
          go_wp2
          go_meet
          case rel => exact ⟨_, (true), (by first | rfl | (simp; done) | (simp [*]; done)), H', ⟨by first | omega | exact Nat.le_refl _⟩, ⟨by repeat (first | (with_reducible first | exact HB.out | apply below_alloc | apply pw_below_drewN | apply below_drew1) | exact HB.out)⟩⟩
      · rw [if_neg c12] at H
        have c12b0 : decide (0 ≤ t151) = false := decide_eq_false c12
        clear c12
        have H' := Aside0.mk H
        clear H
        go_wp2
        go_meet
        case rel => exact ⟨_, (false), (by first | rfl | (simp; done) | (simp [*]; done)), H', ⟨by first | omega | exact Nat.le_refl _⟩, ⟨by repeat (first | (with_reducible first | exact HB.out | apply below_alloc | apply pw_below_drewN | apply below_drew1) | exact HB.out)⟩⟩
  case rest =>
    clear HC6
    try clear c1
    try clear q1
    try clear c2
    try clear p2
    try clear c6
    try clear c8
    try clear c8b0
    try clear c9
    try clear c9b0
    try clear c9b1
    try clear c10
    try clear c10b0
    try clear c10b1
    try clear c11
    try clear c11b0
    try clear c12
    try clear c12b0
    try clear q152
    try clear q153
    obtain ⟨kq, x43_5, rfl, HA, HJ5, HB⟩ := hcut
    cases kq with
    | zero => exact absurd HA.out (by simp [clapperlaw08_TlvNumbers.j0])
    | succ kj5 =>
      have H := HA.out
      clear HA
      simp only [clapperlaw08_TlvNumbers.j0] at H
      by_cases c13 : x43_5 = true
      · subst c13
        have H1 : (some false) = some r := by rw [if_pos rfl] at H; exact H
        clear H
        have H := H1
        clear H1
        exact absurd H (by rw [HT_.out]; simp)
      · replace c13 := Bool.eq_false_iff.mpr c13
        subst c13
        have H1 : ((tlv_Number.f kj5 a0).bind fun t154 => (if a0 < 0 then ((clapperref08_Number.f kj5 (wrap64 (-(wrap64 (a0 + 1))))).bind fun t157 => (clapperlaw08_TlvNumbers.l0 kj5 t148 t154 t157 0)) else (if t148 = true then ((clapperref08_Number.f kj5 a0).bind fun t159 => (some ((strOfNums t154).toList == t159.toList))) else (some false)))) = some r := by rw [if_neg (show ¬ (false = true) by decide)] at H; exact H
        clear H
        have H := H1
        clear H1
        replace H := Option.bind_eq_some_iff.mp H
        obtain ⟨t154, A140, H⟩ := H
        replace H : (if a0 < 0 then ((clapperref08_Number.f kj5 (wrap64 (-(wrap64 (a0 + 1))))).bind fun t157 => (clapperlaw08_TlvNumbers.l0 kj5 t148 t154 t157 0)) else (if t148 = true then ((clapperref08_Number.f kj5 a0).bind fun t159 => (some ((strOfNums t154).toList == t159.toList))) else (some false))) = some r := H
        have A14 := Aside0.mk A140
        clear A140
        by_cases c15 : a0 < 0
        · rw [if_pos c15] at H
          have c15b0 : decide (a0 < 0) = true := decide_eq_true c15
          clear c15
          replace H := Option.bind_eq_some_iff.mp H
          obtain ⟨t157, A160, H⟩ := H
          replace H : (clapperlaw08_TlvNumbers.l0 kj5 t148 t154 t157 0) = some r := H
          have A16 := Aside0.mk A160
          clear A160
          have H' := Aside0.mk H
          clear H
          go_wp2_with (first | ((with_reducible refine gate_callee (f := 25) rfl ?_); refine goesL_ (some 45) rfl rfl Try.func25 (by kernel_rfl) rfl #[.int .i64 a0] rfl (by (try simp only [List.map_toArray, List.map_cons, List.map_nil]); first | done | rfl | (simp only [List.length_drop, List.length_take]; rfl)) ?_; (with_reducible refine (tlv_Number.calls kj5 a0 t154 _ A14.out).mono ?_); rintro e w17 ⟨v155, rfl, ho0, hb⟩; refine ⟨_, rfl, ?_⟩; have n0_ := Aside0.mk (Kd.R_lower ho0 (below_size (by repeat (first | (with_reducible first | exact HB.out | apply below_alloc | apply pw_below_drewN | apply below_drew1) | exact HB.out)))); have n1_ := Aside0.mk (below_step (by repeat (first | (with_reducible first | exact HB.out | apply below_alloc | apply pw_below_drewN | apply below_drew1) | exact HB.out)) hb); clear HB; have HO156 := n0_; have HB := n1_; clear n0_ n1_; (try clear hb); (try clear hb2); (try clear hk); (try clear hi); (try clear ho0)) | ((with_reducible refine gate_callee (f := 26) rfl ?_); refine goesL_ (some 51) rfl rfl Try.func26 (by kernel_rfl) rfl #[.int .i64 (wrap64 (-(wrap64 (a0 + 1))))] rfl (by (try simp only [List.map_toArray, List.map_cons, List.map_nil]); first | done | rfl | (simp only [List.length_drop, List.length_take]; rfl)) ?_; (with_reducible refine (clapperref08_Number.calls kj5 (wrap64 (-(wrap64 (a0 + 1)))) t157 _ A16.out).mono ?_); rintro e w18 ⟨rfl, hb⟩; refine ⟨_, rfl, ?_⟩; have n0_ := Aside0.mk (Kd.R_below (by (with_reducible repeat (first | apply Kd.R_alloc | apply Kd.R_drewN | apply Kd.R_drew)); exact HO156.out) hb); have n1_ := Aside0.mk (below_step (by repeat (first | (with_reducible first | exact HB.out | apply below_alloc | apply pw_below_drewN | apply below_drew1) | exact HB.out)) hb); clear HO156; clear HB; have HO156 := n0_; have HB := n1_; clear n0_ n1_; (try clear hb); (try clear hb2); (try clear hk); (try clear hi)))
          go_loopg [11] kj5 (fun kq v11 w' => ∃ (x11_2 : Int), v11 = .int .i64 x11_2 ∧ Aside0 (clapperlaw08_TlvNumbers.l0 kq t148 t154 t157 x11_2 = some r) ∧ Aside0 (kq ≤ kj5) ∧ Aside0 (Kd.R (Kd.int .u8) 5 w' w.heap.size (fun _ => True) v155 t154) ∧ Aside0 (Below w.heap.size w w'))
          case atStart => exact ⟨(0), (by first | rfl | (simp; done) | (simp [*]; done)), H', ⟨Nat.le_refl _⟩, ⟨by (with_reducible repeat (first | apply Kd.R_alloc | apply Kd.R_drewN | apply Kd.R_drew)); exact HO156.out⟩, ⟨by repeat (first | (with_reducible first | exact HB.out | apply below_alloc | apply pw_below_drewN | apply below_drew1) | exact HB.out)⟩⟩
          case round =>
            clear H'
            try clear c1
            try clear q1
            try clear c2
            try clear p2
            try clear c6
            try clear p6
            try clear c8
            try clear c8b0
            try clear c9
            try clear c9b0
            try clear c9b1
            try clear c10
            try clear c10b0
            try clear c10b1
            try clear c11
            try clear c11b0
            try clear c12
            try clear c12b0
            try clear c13
            try clear c15
            try clear c15b0
            try clear q15
            try clear p2
            try clear q1
            try clear q152
            try clear q153
            obtain ⟨x11_2, rfl, HA, HK2, HO_9, HB⟩ := hrel
            cases gk with
            | zero => exact absurd HA.out (by simp [clapperlaw08_TlvNumbers.l0])
            | succ k2 =>
              have H := HA.out
              clear HA
              simp only [clapperlaw08_TlvNumbers.l0] at H
              have HC19 := Aside0.mk H
              clear H
              go_upto_region 10 with (fail)
              go_cut [59] (fun v59 wc => ∃ (kq : Nat) (x59_18 : Bool), v59 = .bool x59_18 ∧ Aside0 (clapperlaw08_TlvNumbers.j2 kq t148 t154 t157 x11_2 x59_18 = some r) ∧ Aside0 (kq ≤ k2) ∧ Aside0 (Kd.R (Kd.int .u8) 5 wc w.heap.size (fun _ => True) v155 t154) ∧ Aside0 (Below w.heap.size w wc))
              case first =>
                have H := HC19.out
                clear HC19
                by_cases c20 : x11_2 < (t154.length : Int)
                · rw [if_pos c20] at H
                  have c20b0 : decide (x11_2 < (t154.length : Int)) = true := decide_eq_true c20
                  clear c20
                  (first | rw [c20b0] | (simp only [i64_w, i32_w]; rw [c20b0]) | skip)
                  have H' := Aside0.mk H
                  clear H
                  obtain ⟨Ao21, co21, eo21⟩ := Kd.R_slice HO_9.out
                  subst eo21
                  go_wp2
                  go_meet
                  case rel => exact ⟨_, (decide (x11_2 < 8)), (by first | rfl | (simp; done) | (simp [*]; done)), H', ⟨by have := HJ5.out; have := HK2.out; first | omega | exact Nat.le_refl _⟩, ⟨by (with_reducible repeat (first | apply Kd.R_alloc | apply Kd.R_drewN | apply Kd.R_drew)); exact HO_9.out⟩, ⟨by repeat (first | (with_reducible first | exact HB.out | apply below_alloc | apply pw_below_drewN | apply below_drew1) | exact HB.out)⟩⟩
                · rw [if_neg c20] at H
                  have c20b0 : decide (x11_2 < (t154.length : Int)) = false := decide_eq_false c20
                  clear c20
                  (first | rw [c20b0] | (simp only [i64_w, i32_w]; rw [c20b0]) | skip)
                  have H' := Aside0.mk H
                  clear H
                  obtain ⟨Ao22, co22, eo22⟩ := Kd.R_slice HO_9.out
                  subst eo22
                  go_wp2
                  go_meet
                  case rel => exact ⟨_, (false), (by first | rfl | (simp; done) | (simp [*]; done)), H', ⟨by have := HJ5.out; have := HK2.out; first | omega | exact Nat.le_refl _⟩, ⟨by (with_reducible repeat (first | apply Kd.R_alloc | apply Kd.R_drewN | apply Kd.R_drew)); exact HO_9.out⟩, ⟨by repeat (first | (with_reducible first | exact HB.out | apply below_alloc | apply pw_below_drewN | apply below_drew1) | exact HB.out)⟩⟩
              case rest =>
                clear HC19
                try clear c1
                try clear q1
                try clear c2
                try clear p2
                try clear c6
                try clear p6
                try clear c8
                try clear c8b0
                try clear c9
                try clear c9b0
                try clear c9b1
                try clear c10
                try clear c10b0
                try clear c10b1
                try clear c11
                try clear c11b0
                try clear c12
                try clear c12b0
                try clear c13
                try clear c15
                try clear c15b0
                try clear q15
                try clear c20
                try clear c20b0
                try clear p2
                try clear p6
                try clear q1
                try clear q15
                try clear q152
                try clear q153
                obtain ⟨kq, x59_18, rfl, HA, HJ18, HO_9, HB⟩ := hcut
                cases kq with
                | zero => exact absurd HA.out (by simp [clapperlaw08_TlvNumbers.j2])
                | succ kj18 =>
                  have H := HA.out
                  clear HA
                  simp only [clapperlaw08_TlvNumbers.j2] at H
                  by_cases c23 : x59_18 = true
                  · subst c23
                    have H1 : (if 0 ≤ x11_2 then (if x11_2 < (t154.length : Int) then (if x11_2 < (t157.size : Int) then (if (rd t154 x11_2) = ((255 - (bt t157 x11_2)) % 256) then (clapperlaw08_TlvNumbers.l0 kj18 t148 t154 t157 (wrap64 (x11_2 + 1))) else (some false)) else (none)) else (none)) else (none)) = some r := by rw [if_pos rfl] at H; exact H
                    clear H
                    have H := H1
                    clear H1
                    by_cases c24 : 0 ≤ x11_2
                    · rw [if_pos c24] at H
                      have c24b0 : decide (0 ≤ x11_2) = true := decide_eq_true c24
                      clear c24
                      by_cases c25 : x11_2 < (t154.length : Int)
                      · rw [if_pos c25] at H
                        have c25b0 : decide (x11_2 < (t154.length : Int)) = true := decide_eq_true c25
                        clear c25
                        by_cases c26 : x11_2 < (t157.size : Int)
                        · rw [if_pos c26] at H
                          have c26b0 : decide (x11_2 < (t157.size : Int)) = true := decide_eq_true c26
                          clear c26
                          by_cases c28 : (rd t154 x11_2) = ((255 - (bt t157 x11_2)) % 256)
                          · rw [if_pos c28] at H
                            have c28b0 : ((rd t154 x11_2) == ((255 - (bt t157 x11_2)) % 256)) = true := beq_iff_eq.mpr c28
                            have c28b1 : ((rd t154 x11_2) != ((255 - (bt t157 x11_2)) % 256)) = false := bne_eq_false_iff_eq.mpr c28
                            clear c28
                            have H' := Aside0.mk H
                            clear H
                            try go_wp2
                            have n0_ := Aside0.mk (Kd.R_drew HO_9.out)
                            have n1_ := Aside0.mk (below_drew1 HB.out)
                            clear HO_9
                            clear HB
                            have HO_9 := n0_
                            have HB := n1_
                            clear n0_ n1_
                            obtain ⟨Ao30, co30, eo30⟩ := Kd.R_slice HO_9.out
                            (first | subst eo30 | (injection eo30 with f1_ f2_ f3_; have f4_ := f1_.symm; have f5_ := f3_.symm; clear f1_ f2_ f3_; subst f4_; subst f5_))
                            have p158 : 0 ≤ (x11_2 : Int) := of_decide_eq_true (by first | (with_reducible assumption) | assumption)
                            have q158 : x11_2 < (t154.length : Int) := of_decide_eq_true (by first | (with_reducible assumption) | assumption)
                            obtain ⟨ad158, e158, hx158_0⟩ := Kd.at_int (Kd.R_reads' HO_9.out).2.2 x11_2 p158 q158
                            cases e158
                            replace p158 := eq_true p158
                            replace q158 := eq_true q158
                            have p27 : 0 ≤ (x11_2 : Int) := of_decide_eq_true (by first | (with_reducible assumption) | assumption)
                            have q27 : x11_2 < (t157.size : Int) := of_decide_eq_true (by first | (with_reducible assumption) | assumption)
                            have hx27 := bt_at t157 x11_2
                            replace p27 := eq_true p27
                            replace q27 := eq_true q27
                            refine start_ (n := 9) (S := fun w' => w'.cell? (ad158.add (x11_2).toNat) = some (.int .u8 (rd t154 x11_2))) (ds := []) #[false, false, false, false, false, false, false, false, false] (by kernel_rfl) rfl rfl (hx158_0) (fun hHeld => ?_); refine with_tabW clapperlaw08_TlvNumbers.tab12 clapperlaw08_TlvNumbers.bits12 (fun HT_ HW_ => ?_)
                            generalize wc.drew = w29 at HO_9 HB hx158_0 hHeld ⊢
                            refine pure_ (i := 0) (N := some 62) (v := ?_) (a' := ?_) #[true, false, false, false, false, false, false, false, false] rfl rfl (any_of HT_.out (by kernel_rfl)) (fun _ _ _ h => h) (Or.inl ⟨by rfl, ?_⟩) ?_ ?_
                            rotate_left
                            · intro w'
                              go_simp
                              with_reducible rfl
                            rotate_left
                            · simp only [Act.put, List.setIfInBounds_toArray, List.set_cons_zero, List.set_cons_succ, i64_w, i32_w]
                              rfl
                            refine pure_ (i := 1) (N := some 63) (v := ?_) (a' := ?_) #[true, true, false, false, false, false, false, false, false] rfl rfl (any_of HT_.out (by kernel_rfl)) (fun _ _ _ h => h) (Or.inl ⟨by rfl, ?_⟩) ?_ ?_
                            rotate_left
                            · intro w'
                              go_simp
                              with_reducible rfl
                            rotate_left
                            · simp only [Act.put, List.setIfInBounds_toArray, List.set_cons_zero, List.set_cons_succ, i64_w, i32_w]
                              rfl
                            refine pure_ (i := 2) (N := some 64) (v := ?_) (a' := ?_) #[true, true, true, false, false, false, false, false, false] rfl rfl (any_of HT_.out (by kernel_rfl)) (fun _ _ _ h => h) (Or.inl ⟨by rfl, ?_⟩) ?_ ?_
                            rotate_left
                            · intro w'
                              go_simp
                              with_reducible rfl
                            rotate_left
                            · simp only [Act.put, List.setIfInBounds_toArray, List.set_cons_zero, List.set_cons_succ, i64_w, i32_w]
                              rfl
                            refine pure_ (i := 4) (N := some 66) (v := ?_) (a' := ?_) #[true, true, true, false, true, false, false, false, false] rfl rfl (any_of HT_.out (by kernel_rfl)) (fun _ _ _ h => h) (Or.inl ⟨by rfl, ?_⟩) ?_ ?_
                            rotate_left
                            · intro w'
                              go_simp
                              with_reducible rfl
                            rotate_left
                            · simp only [Act.put, List.setIfInBounds_toArray, List.set_cons_zero, List.set_cons_succ, i64_w, i32_w]
                              rfl
                            refine pure_ (i := 5) (N := some 67) (v := ?_) (a' := ?_) #[true, true, true, false, true, true, false, false, false] rfl rfl (any_of HT_.out (by kernel_rfl)) (fun _ _ _ h => h) (Or.inl ⟨by rfl, ?_⟩) ?_ ?_
                            rotate_left
                            · intro w'
                              go_simp
                              with_reducible rfl
                            rotate_left
                            · simp only [Act.put, List.setIfInBounds_toArray, List.set_cons_zero, List.set_cons_succ, i64_w, i32_w]
                              rfl
                            refine take_ (i := 3) (N := some 65) (v := ?_) (a' := ?_) #[true, true, true, true, true, true, false, false, false] rfl rfl (take_ofW HT_.out HW_.out (by kernel_rfl)) (fun _ _ _ h => h) (Or.inl ⟨by rfl, ?_⟩) hHeld ?_ ?_
                            rotate_left
                            · intro w' s0
                              go_simp
                              with_reducible rfl
                            rotate_left
                            · simp only [Act.put, List.setIfInBounds_toArray, List.set_cons_zero, List.set_cons_succ, i64_w, i32_w]
                              rfl
                            refine take_ (i := 6) (N := some 68) (v := ?_) (a' := ?_) #[true, true, true, true, true, true, true, false, false] rfl rfl (take_ofW HT_.out HW_.out (by kernel_rfl)) (fun _ _ _ h => h) (Or.inl ⟨by rfl, ?_⟩) hHeld ?_ ?_
                            rotate_left
                            · intro w' s0
                              go_simp
                              with_reducible rfl
                            rotate_left
                            · simp only [Act.put, List.setIfInBounds_toArray, List.set_cons_zero, List.set_cons_succ, i64_w, i32_w]
                              rfl
                            refine pure_ (i := 7) (N := some 69) (v := ?_) (a' := ?_) #[true, true, true, true, true, true, true, true, false] rfl rfl (any_of HT_.out (by kernel_rfl)) (fun _ _ _ h => h) (Or.inl ⟨by rfl, ?_⟩) ?_ ?_
                            rotate_left
                            · intro w'
                              go_simp
                              with_reducible rfl
                            rotate_left
                            · simp only [Act.put, List.setIfInBounds_toArray, List.set_cons_zero, List.set_cons_succ, i64_w, i32_w]
                              rfl
                            refine pure_ (i := 8) (N := some 70) (v := ?_) (a' := ?_) #[true, true, true, true, true, true, true, true, true] rfl rfl (any_of HT_.out (by kernel_rfl)) (fun _ _ _ h => h) (Or.inl ⟨by rfl, ?_⟩) ?_ ?_
                            rotate_left
                            · intro w'
                              go_simp
                              with_reducible rfl
                            rotate_left
                            · simp only [Act.put, List.setIfInBounds_toArray, List.set_cons_zero, List.set_cons_succ, i64_w, i32_w]
                              rfl
                            refine done_ (done_of HT_.out (by kernel_rfl)) ?_
                            try go_wp2
                            go_roundg kj18
                            case measure => have := HJ5.out; have := HK2.out; have := HJ18.out; omega
                            case rel => exact ⟨(wrap64 (x11_2 + 1)), (by first | rfl | (simp; done) | (simp [*]; done)), H', ⟨by have := HJ5.out; have := HK2.out; have := HJ18.out; omega⟩, ⟨by (with_reducible repeat (first | apply Kd.R_alloc | apply Kd.R_drewN | apply Kd.R_drew)); exact HO_9.out⟩, ⟨by repeat (first | (with_reducible first | exact HB.out | apply below_alloc | apply pw_below_drewN | apply below_drew1) | exact HB.out)⟩⟩
                          · rw [if_neg c28] at H
                            have c28b0 : ((rd t154 x11_2) == ((255 - (bt t157 x11_2)) % 256)) = false := beq_eq_false_iff_ne.mpr c28
                            have c28b1 : ((rd t154 x11_2) != ((255 - (bt t157 x11_2)) % 256)) = true := bne_iff_ne.mpr c28
                            exact absurd H (by rw [HT_.out]; simp)
                        · rw [if_neg c26] at H
                          exact absurd H (by simp)
                      · rw [if_neg c25] at H
                        exact absurd H (by simp)
                    · rw [if_neg c24] at H
                      exact absurd H (by simp)
                  · replace c23 := Bool.eq_false_iff.mpr c23
                    subst c23
                    have H1 : (if t148 = true then (some ((t154.length : Int) == 8)) else (some false)) = some r := by rw [if_neg (show ¬ (false = true) by decide)] at H; exact H
                    clear H
                    have H := H1
                    clear H1
                    by_cases c31 : t148 = true
                    · subst c31
                      have H1 : (some ((t154.length : Int) == 8)) = some r := by rw [if_pos rfl] at H; exact H
                      clear H
                      have H := H1
                      clear H1
                      obtain rfl := Option.some.inj H
                      obtain ⟨Ao32, co32, eo32⟩ := Kd.R_slice HO_9.out
                      subst eo32
                      go_wp2
                      go_ret
                      exact ⟨by first | rfl | (simp [errW_none, errW_some] <;> rfl) | (simp [*, errW_none, errW_some] <;> rfl), by repeat (first | (with_reducible first | exact HB.out | apply below_alloc | apply pw_below_drewN | apply below_drew1) | exact HB.out)⟩
                    · replace c31 := Bool.eq_false_iff.mpr c31
                      subst c31
                      have H1 : (some false) = some r := by rw [if_neg (show ¬ (false = true) by decide)] at H; exact H
                      clear H
                      have H := H1
                      clear H1
                      exact absurd H (by rw [HT_.out]; simp)
        · rw [if_neg c15] at H
          have c15b0 : decide (a0 < 0) = false := decide_eq_false c15
          clear c15
          by_cases c33 : t148 = true
          · subst c33
            have H1 : ((clapperref08_Number.f kj5 a0).bind fun t159 => (some ((strOfNums t154).toList == t159.toList))) = some r := by rw [if_pos rfl] at H; exact H
            clear H
            have H := H1
            clear H1
            replace H := Option.bind_eq_some_iff.mp H
            obtain ⟨t159, A340, H⟩ := H
            replace H : (some ((strOfNums t154).toList == t159.toList)) = some r := H
            have A34 := Aside0.mk A340
            clear A340
            obtain rfl := Option.some.inj H
            try go_wp2_with (first | ((with_reducible refine gate_callee (f := 25) rfl ?_); refine goesL_ (some 45) rfl rfl Try.func25 (by kernel_rfl) rfl #[.int .i64 a0] rfl (by (try simp only [List.map_toArray, List.map_cons, List.map_nil]); first | done | rfl | (simp only [List.length_drop, List.length_take]; rfl)) ?_; (with_reducible refine (tlv_Number.calls kj5 a0 t154 _ A14.out).mono ?_); rintro e w35 ⟨v155, rfl, ho0, hb⟩; refine ⟨_, rfl, ?_⟩; have n0_ := Aside0.mk (Kd.R_lower ho0 (below_size (by repeat (first | (with_reducible first | exact HB.out | apply below_alloc | apply pw_below_drewN | apply below_drew1) | exact HB.out)))); have n1_ := Aside0.mk (below_step (by repeat (first | (with_reducible first | exact HB.out | apply below_alloc | apply pw_below_drewN | apply below_drew1) | exact HB.out)) hb); clear HB; have HO156 := n0_; have HB := n1_; clear n0_ n1_; (try clear hb); (try clear hb2); (try clear hk); (try clear hi); (try clear ho0)))
            have n0_ := Aside0.mk (Kd.R_drew HO156.out)
            have n1_ := Aside0.mk (below_drew1 HB.out)
            clear HO156
            clear HB
            have HO156 := n0_
            have HB := n1_
            clear n0_ n1_
            refine start_ (n := 9) (S := fun w' => (convert 33 9 v155).run Try.prog w' = .ok (.string (strOfNums t154)) w') (ds := []) #[false, false, false, false, false, false, false, false, false] (by kernel_rfl) rfl rfl ((own_string (P := Try.prog) Try.underlying33 Try.underlying5 Try.underlying9 (Kd.own_of_R HO156.out))) (fun hHeld => ?_); refine with_tabW clapperlaw08_TlvNumbers.tab15 clapperlaw08_TlvNumbers.bits15 (fun HT_ HW_ => ?_)
            generalize w35.drew = w36 at HO156 HB hHeld ⊢
            refine pure_ (i := 0) (N := some 77) (v := ?_) (a' := ?_) #[true, false, false, false, false, false, false, false, false] rfl rfl (any_of HT_.out (by kernel_rfl)) (fun _ _ _ h => h) (Or.inl ⟨by rfl, ?_⟩) ?_ ?_
            rotate_left
            · intro w'
              go_simp
              with_reducible rfl
            rotate_left
            · simp only [Act.put, List.setIfInBounds_toArray, List.set_cons_zero, List.set_cons_succ, i64_w, i32_w]
              rfl
            refine pure_ (i := 1) (N := some 78) (v := ?_) (a' := ?_) #[true, true, false, false, false, false, false, false, false] rfl rfl (any_of HT_.out (by kernel_rfl)) (fun _ _ _ h => h) (Or.inl ⟨by rfl, ?_⟩) ?_ ?_
            rotate_left
            · intro w'
              go_simp
              with_reducible rfl
            rotate_left
            · simp only [Act.put, List.setIfInBounds_toArray, List.set_cons_zero, List.set_cons_succ, i64_w, i32_w]
              rfl
            refine pure_ (i := 2) (N := some 79) (v := ?_) (a' := ?_) #[true, true, true, false, false, false, false, false, false] rfl rfl (any_of HT_.out (by kernel_rfl)) (fun _ _ _ h => h) (Or.inl ⟨by rfl, ?_⟩) ?_ ?_
            rotate_left
            · intro w'
              go_simp
              with_reducible rfl
            rotate_left
            · simp only [Act.put, List.setIfInBounds_toArray, List.set_cons_zero, List.set_cons_succ, i64_w, i32_w]
              rfl
            refine pure_ (i := 4) (N := some 81) (v := ?_) (a' := ?_) #[true, true, true, false, true, false, false, false, false] rfl rfl (any_of HT_.out (by kernel_rfl)) (fun _ _ _ h => h) (Or.inl ⟨by rfl, ?_⟩) ?_ ?_
            rotate_left
            · intro w'
              go_simp
              with_reducible rfl
            rotate_left
            · simp only [Act.put, List.setIfInBounds_toArray, List.set_cons_zero, List.set_cons_succ, i64_w, i32_w]
              rfl
            refine take_ (i := 3) (N := some 80) (v := ?_) (a' := ?_) #[true, true, true, true, true, false, false, false, false] rfl rfl (take_ofW HT_.out HW_.out (by kernel_rfl)) (fun _ _ _ h => h) (Or.inl ⟨by rfl, ?_⟩) hHeld ?_ ?_
            rotate_left
            · intro w' s0
              go_simp
              with_reducible rfl
            rotate_left
            · simp only [Act.put, List.setIfInBounds_toArray, List.set_cons_zero, List.set_cons_succ, i64_w, i32_w]
              rfl
            refine one_ (i := 5) (N := some 82) #[true, true, true, true, true, true, false, false, false] rfl rfl (one_of HT_.out (by kernel_rfl)) (by decide) (fun K hK => ?_)
            refine goes_ Try.func26 (by kernel_rfl) rfl #[.int .i64 a0] (by rfl) rfl rfl (by (try simp only [List.map_toArray, List.map_cons, List.map_nil]); first | done | rfl | (simp only [List.length_drop, List.length_take]; rfl)) ?_
            with_reducible refine (clapperref08_Number.calls kj5 a0 t159 _ A34.out).mono ?_
            rintro e w37 ⟨rfl, hb⟩
            refine ⟨_, rfl, ?_⟩
            have n0_ := Aside0.mk (Kd.R_below (by (with_reducible repeat (first | apply Kd.R_alloc | apply Kd.R_drewN | apply Kd.R_drew)); exact HO156.out) hb)
            have n1_ := Aside0.mk (below_step (by repeat (first | (with_reducible first | exact HB.out | apply below_alloc | apply pw_below_drewN | apply below_drew1) | exact HB.out)) hb)
            clear HO156
            clear HB
            have HO156 := n0_
            have HB := n1_
            clear n0_ n1_
            (try clear hb)
            (try clear hb2)
            (try clear hk)
            (try clear hi)
            refine hK.out _ _ ((own_string (P := Try.prog) Try.underlying33 Try.underlying5 Try.underlying9 (Kd.own_of_R HO156.out))) (fun hHeld => ?_)
            clear hK K
            refine norm_ (a' := ?_) ?_ ?_
            rotate_left
            · show Act.put _ (some 82) _ = _
              simp only [Act.put, List.setIfInBounds_toArray, List.set_cons_zero, List.set_cons_succ, i64_w, i32_w]
              rfl
            refine pure_ (i := 6) (N := some 83) (v := ?_) (a' := ?_) #[true, true, true, true, true, true, true, false, false] rfl rfl (any_of HT_.out (by kernel_rfl)) (fun _ _ _ h => h) (Or.inl ⟨by rfl, ?_⟩) ?_ ?_
            rotate_left
            · intro w'
              go_simp
              with_reducible rfl
            rotate_left
            · simp only [Act.put, List.setIfInBounds_toArray, List.set_cons_zero, List.set_cons_succ, i64_w, i32_w]
              rfl
            refine pure_ (i := 7) (N := some 84) (v := ?_) (a' := ?_) #[true, true, true, true, true, true, true, true, false] rfl rfl (any_of HT_.out (by kernel_rfl)) (fun _ _ _ h => h) (Or.inl ⟨by rfl, ?_⟩) ?_ ?_
            rotate_left
            · intro w'
              go_simp
              with_reducible rfl
            rotate_left
            · simp only [Act.put, List.setIfInBounds_toArray, List.set_cons_zero, List.set_cons_succ, i64_w, i32_w]
              rfl
            refine pure_ (i := 8) (N := some 4) (v := ?_) (a' := ?_) #[true, true, true, true, true, true, true, true, true] rfl rfl (any_of HT_.out (by kernel_rfl)) (fun _ _ _ h => h) (Or.inl ⟨by rfl, ?_⟩) ?_ ?_
            rotate_left
            · intro w'
              go_simp
              with_reducible rfl
            rotate_left
            · simp only [Act.put, List.setIfInBounds_toArray, List.set_cons_zero, List.set_cons_succ, i64_w, i32_w]
              rfl
            refine done_ (done_of HT_.out (by kernel_rfl)) ?_
            try go_wp2
            go_ret
            exact ⟨by first | rfl | (simp [errW_none, errW_some] <;> rfl) | (simp [*, errW_none, errW_some] <;> rfl), by repeat (first | (with_reducible first | exact HB.out | apply below_alloc | apply pw_below_drewN | apply below_drew1) | exact HB.out)⟩
          · replace c33 := Bool.eq_false_iff.mpr c33
            subst c33
            have H1 : (some false) = some r := by rw [if_neg (show ¬ (false = true) by decide)] at H; exact H
            clear H
            have H := H1
            clear H1
            exact absurd H (by rw [HT_.out]; simp)

/-- THE ONE PURE STATEMENT of clapperlaw08_TlvNumbers: yours. -/
def clapperlaw08_TlvNumbers.Pure : Prop := ∀ (a0 : Int) (l1 : List Int), (Lit.int .i64 a0).wf = true → l1.length ≤ maxLen → l1.length * 1 ≤ 140737488351232 → (∀ x ∈ l1, (Lit.int .u8 x).wf = true) → ∃ k, clapperlaw08_TlvNumbers.f k a0 l1 = some true
theorem clapperlaw08_TlvNumbers.walk (P : clapperlaw08_TlvNumbers.Pure) (a0 : Int) (a1 : Option Addr) (len1 cap1 : Nat) (z1 : List Int) (w : World) (w0 : (Lit.int .i64 a0).wf = true) (w1 : (a1 = none ∧ len1 = 0 ∧ cap1 = 0 ∧ z1 = []) ∨ ∃ x, a1 = some x ∧ len1 ≤ cap1 ∧ cap1 ≤ maxLen ∧ z1.length = cap1 ∧ (∀ i, i < z1.length → w.cell? (x.add i) = some (.int .u8 (z1.getD i 0))) ∧ ∀ n ∈ z1, (Lit.int .u8 n).wf = true) (y1 : len1 * 1 ≤ 140737488351232) :
    Calls Try.prog 6 #[.int .i64 a0, .slice a1 len1 cap1] w fun e w' => e = .returned (.bool true) ∧ Below w.heap.size w w' := by
  obtain ⟨l1, rfl, hr1, hm1, hw1, hc1⟩ := ReadsInt.ofRowC w1
  obtain ⟨k, h⟩ := P a0 l1 w0 hm1 y1 hw1
  refine (clapperlaw08_TlvNumbers.calls k a0 _ _ l1 true w (Kd.C_of_reads (d := (0 : Int)) (h1 := fun _ => rfl) hr1) hc1 rfl h).mono ?_
  rintro e w' ⟨rfl, hd⟩
  exact ⟨rfl, hd⟩

end Go.Proofs.Ytikdfamhgopcdaa.PTlvNumbers
