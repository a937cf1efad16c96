-- Laid by a program of the session (mkprint2.py): the kit's printer, and contracts by hand among what it prints.
import Derived.Test.YtikdfamhgopcdaaPRevokeMergesx0
import Derived.Test.YtikdfamhgopcdaaPRevokeMergesx2
import Derived.Test.YtikdfamhgopcdaaPRevokeMergesx3
import Derived.Test.YtikdfamhgopcdaaPRevokeMergesx4
import Derived.Test.YtikdfamhgopcdaaPRevokeMergesx5
namespace Go.Proofs.Ytikdfamhgopcdaa.PRevokeMerges
open Go.RowKit Go.Proofs.YtikdfamhgopcdaaW.PrintWords Go.Proofs.YtikdfamhgopcdaaW.PrintLast Go.Proofs.YtikdfamhgopcdaaW.PrintMore
attribute [local go_sem] max2_int min2_int max_two min_two max_three min_three max_four min_four   -- for this text's walks alone
set_option linter.unusedVariables false
set_option linter.unusedSimpArgs false

attribute [local go_sem high] u8_w cast_tmod eql_code neq_code eql_code_nil neq_code_nil eql_nil_code neq_nil_code
/-! ### clapperlaw11_RevokeMerges: function 3 -/
mutual
def clapperlaw11_RevokeMerges.j0 : Nat → List (S61) → List (S61) → Bool → Bool → Option (Bool)
  | 0, _, _, _, _ => none
  | k + 1, x0, x1, x5, x19 => if x19 = true then (some x5) else ((revoke_Merge.f k x0 x1).bind fun bt203 => ((clapperref11_May.f k x0).bind fun t207 => ((clapperref11_May.f k x1).bind fun t208 => (if t207 = true then (clapperlaw11_RevokeMerges.j1 k x0 x1 x5 bt203.1 bt203.2 (!t208)) else (clapperlaw11_RevokeMerges.j1 k x0 x1 x5 bt203.1 bt203.2 true)))))
def clapperlaw11_RevokeMerges.j1 : Nat → List (S61) → List (S61) → Bool → List (S61) → Option Int → Bool → Option (Bool)
  | 0, _, _, _, _, _, _ => none
  | k + 1, x0, x1, x5, x6, x7, x36 => if x36 = true then (if x5 = true then (if x7.isNone = true then (some false) else (if (x7.getD 0) = 1 then (some ((x6.length : Int) == 0)) else (some false))) else (some false)) else ((clapperref11_Merge.f k x0 x1).bind fun t210 => (if (t210.length : Int) > 200 then (if x5 = true then (if x7.isNone = true then (some false) else (if (x7.getD 0) = 3 then (some ((x6.length : Int) == 0)) else (some false))) else (some false)) else (if x5 = true then (if x7.isNone = true then ((clapperref11_Same.f k x6 t210).bind fun t215 => (some t215)) else (some false)) else (some false))))
end
def clapperlaw11_RevokeMerges.f (k : Nat) (l0 : List (S61)) (l1 : List (S61)) : Option (Bool) := (clapperlaw11_up.f k).bind fun t202 => (if (l0.length : Int) > 300 then (clapperlaw11_RevokeMerges.j0 k l0 l1 t202 true) else (clapperlaw11_RevokeMerges.j0 k l0 l1 t202 (decide ((l1.length : Int) > 300))))
theorem clapperlaw11_RevokeMerges.mono_l : ∀ k, (∀ y0 y1 y2 y3, LeO (clapperlaw11_RevokeMerges.j0 k y0 y1 y2 y3) (clapperlaw11_RevokeMerges.j0 (k + 1) y0 y1 y2 y3)) ∧ (∀ y0 y1 y2 y3 y4 y5, LeO (clapperlaw11_RevokeMerges.j1 k y0 y1 y2 y3 y4 y5) (clapperlaw11_RevokeMerges.j1 (k + 1) y0 y1 y2 y3 y4 y5))
  | 0 => ⟨fun _ _ _ _ r h => by simp [clapperlaw11_RevokeMerges.j0] at h, fun _ _ _ _ _ _ r h => by simp [clapperlaw11_RevokeMerges.j1] at h⟩
  | k + 1 => by
    obtain ⟨ih0, ih1⟩ := clapperlaw11_RevokeMerges.mono_l k
    refine ⟨?_, ?_⟩
    · intro y0 y1 y2 y3
      unfold clapperlaw11_RevokeMerges.j0
      repeat' first
      | (with_reducible exact ih0 _ _ _ _)
      | (with_reducible exact ih1 _ _ _ _ _ _)
      | (with_reducible exact clapperlaw11_up.mono _)
      | (with_reducible exact clapperref11_May.mono _ _)
      | (with_reducible exact clapperref11_Merge.mono _ _ _)
      | (with_reducible exact clapperref11_Same.mono _ _ _)
      | (with_reducible exact revoke_Merge.mono _ _ _)
      | (with_reducible exact LeO.refl _)
      | (with_reducible exact LeO.none _)
      | (with_reducible refine LeO.ite ?_ ?_)
      | (with_reducible refine LeO.bind ?_ (fun _ => ?_))
      | exact ih0 _ _ _ _
      | exact ih1 _ _ _ _ _ _
      | exact clapperlaw11_up.mono _
      | exact clapperref11_May.mono _ _
      | exact clapperref11_Merge.mono _ _ _
      | exact clapperref11_Same.mono _ _ _
      | exact revoke_Merge.mono _ _ _
      | exact LeO.none _
      | refine LeO.ite ?_ ?_
      | refine LeO.bind ?_ (fun _ => ?_)
    · intro y0 y1 y2 y3 y4 y5
      unfold clapperlaw11_RevokeMerges.j1
      repeat' first
      | (with_reducible exact ih0 _ _ _ _)
      | (with_reducible exact ih1 _ _ _ _ _ _)
      | (with_reducible exact clapperlaw11_up.mono _)
      | (with_reducible exact clapperref11_May.mono _ _)
      | (with_reducible exact clapperref11_Merge.mono _ _ _)
      | (with_reducible exact clapperref11_Same.mono _ _ _)
      | (with_reducible exact revoke_Merge.mono _ _ _)
      | (with_reducible exact LeO.refl _)
      | (with_reducible exact LeO.none _)
      | (with_reducible refine LeO.ite ?_ ?_)
      | (with_reducible refine LeO.bind ?_ (fun _ => ?_))
      | exact ih0 _ _ _ _
      | exact ih1 _ _ _ _ _ _
      | exact clapperlaw11_up.mono _
      | exact clapperref11_May.mono _ _
      | exact clapperref11_Merge.mono _ _ _
      | exact clapperref11_Same.mono _ _ _
      | exact revoke_Merge.mono _ _ _
      | exact LeO.none _
      | refine LeO.ite ?_ ?_
      | refine LeO.bind ?_ (fun _ => ?_)
theorem clapperlaw11_RevokeMerges.mono : ∀ a0 a1 k, LeO (clapperlaw11_RevokeMerges.f k a0 a1) (clapperlaw11_RevokeMerges.f (k + 1) a0 a1) := by
  intro a0 a1 k
  obtain ⟨ih0, ih1⟩ := clapperlaw11_RevokeMerges.mono_l k
  unfold clapperlaw11_RevokeMerges.f
  repeat' first
      | (with_reducible exact ih0 _ _ _ _)
      | (with_reducible exact ih1 _ _ _ _ _ _)
      | (with_reducible exact clapperlaw11_up.mono _)
      | (with_reducible exact clapperref11_May.mono _ _)
      | (with_reducible exact clapperref11_Merge.mono _ _ _)
      | (with_reducible exact clapperref11_Same.mono _ _ _)
      | (with_reducible exact revoke_Merge.mono _ _ _)
      | (with_reducible exact LeO.refl _)
      | (with_reducible exact LeO.none _)
      | (with_reducible refine LeO.ite ?_ ?_)
      | (with_reducible refine LeO.bind ?_ (fun _ => ?_))
      | exact ih0 _ _ _ _
      | exact ih1 _ _ _ _ _ _
      | exact clapperlaw11_up.mono _
      | exact clapperref11_May.mono _ _
      | exact clapperref11_Merge.mono _ _ _
      | exact clapperref11_Same.mono _ _ _
      | exact revoke_Merge.mono _ _ _
      | exact LeO.none _
      | refine LeO.ite ?_ ?_
      | refine LeO.bind ?_ (fun _ => ?_)
set_option maxHeartbeats 8000000 in
set_option maxRecDepth 100000 in
theorem clapperlaw11_RevokeMerges.calls (k : Nat) (A0 : Option Addr) (c0 : Nat) (l0 : List (S61)) (A1 : Option Addr) (c1 : Nat) (l1 : List (S61)) (r : Bool) (w : World) (hr0 : Kd.C k61 w A0 l0.length l0) (hc0 : l0.length ≤ c0) (hr1 : Kd.C k61 w A1 l1.length l1) (hc1 : l1.length ≤ c1) (hr_ : r = true) (h : clapperlaw11_RevokeMerges.f k l0 l1 = some r) :
    Calls Try.prog 3 #[.slice A0 l0.length c0, .slice A1 l1.length c1] w fun e w' => e = .returned (.bool r) ∧ Below w.heap.size w w' := by
  have hu25 := Try.underlying25
  have hu29 := Try.underlying29
  have HR0 := Aside0.mk hr0
  have HC0 := Aside0.mk hc0
  clear hr0 hc0
  have HR1 := Aside0.mk hr1
  have HC1 := Aside0.mk hc1
  clear hr1 hc1
  have HB := Aside0.mk (Below.refl w.heap.size w)
  have HT_ := Aside0.mk hr_
  clear hr_
  have H : ((clapperlaw11_up.f k).bind fun t202 => (if (l0.length : Int) > 300 then (clapperlaw11_RevokeMerges.j0 k l0 l1 t202 true) else (clapperlaw11_RevokeMerges.j0 k l0 l1 t202 (decide ((l1.length : Int) > 300))))) = some r := h
  clear h
  replace H := Option.bind_eq_some_iff.mp H
  obtain ⟨t202, A30, H⟩ := H
  replace H : (if (l0.length : Int) > 300 then (clapperlaw11_RevokeMerges.j0 k l0 l1 t202 true) else (clapperlaw11_RevokeMerges.j0 k l0 l1 t202 (decide ((l1.length : Int) > 300)))) = some r := H
  have A3 := Aside0.mk A30
  clear A30
  have HC4 := Aside0.mk H
  clear H
  go_enter Try.func3, Try.ntmps3
  go_upto_region 2 with (first | ((with_reducible refine gate_callee (f := 10) rfl ?_); refine goesL_ (some 11) rfl rfl Try.func10 (by kernel_rfl) rfl #[] rfl (by (try simp only [List.map_toArray, List.map_cons, List.map_nil]); first | done | rfl | (simp only [List.length_drop, List.length_take]; rfl)) ?_; (with_reducible refine (clapperlaw11_up.calls k  t202 _ A3.out).mono ?_); rintro e w5 ⟨rfl, hb⟩; refine ⟨_, rfl, ?_⟩; have n0_ := Aside0.mk (below_step (by repeat (first | (with_reducible first | exact HB.out | apply below_alloc | apply pw_below_drewN | apply below_drew1) | exact HB.out)) hb); clear HB; have HB := n0_; clear n0_; (try clear hb); (try clear hb2); (try clear hk); (try clear hi)))
  (try simp only [Act.put, List.setIfInBounds_toArray, List.set_cons_zero, List.set_cons_succ])
  go_cut [19] (fun v19 wc => ∃ (kq : Nat) (x19_3 : Bool), v19 = .bool x19_3 ∧ Aside0 (clapperlaw11_RevokeMerges.j0 kq l0 l1 t202 x19_3 = some r) ∧ Aside0 (kq ≤ k) ∧ Aside0 (Below w.heap.size w wc))
  case first =>
    have H := HC4.out
    clear HC4
    by_cases c6 : (l0.length : Int) > 300
    · rw [if_pos c6] at H
      have c6b0 : decide (300 < (l0.length : Int)) = true := decide_eq_true c6
      have c6b1 : decide (300 < l0.length) = true := decide_eq_true (by omega)
      clear c6
      (first | rw [c6b0] | (simp only [i64_w, i32_w]; rw [c6b0]) | skip)
      have H' := Aside0.mk H
      clear H
      go_wp2
      go_meet
      case rel => exact ⟨_, (true), (by first | rfl | (simp; done) | (simp [*]; done)), H', ⟨by first | omega | exact Nat.le_refl _⟩, ⟨by repeat (first | (with_reducible first | exact HB.out | apply below_alloc | apply pw_below_drewN | apply below_drew1) | exact HB.out)⟩⟩
    · rw [if_neg c6] at H
      have c6b0 : decide (300 < (l0.length : Int)) = false := decide_eq_false c6
      have c6b1 : decide (300 < l0.length) = false := decide_eq_false (by omega)
      clear c6
      (first | rw [c6b0] | (simp only [i64_w, i32_w]; rw [c6b0]) | skip)
      have H' := Aside0.mk H
      clear H
      go_wp2
      go_meet
      case rel => exact ⟨_, (decide ((l1.length : Int) > 300)), (by first | rfl | (simp; done) | (simp [*]; done)), H', ⟨by first | omega | exact Nat.le_refl _⟩, ⟨by repeat (first | (with_reducible first | exact HB.out | apply below_alloc | apply pw_below_drewN | apply below_drew1) | exact HB.out)⟩⟩
  case rest =>
    clear HC4
    try clear c1
    try clear p2
    try clear c3
    try clear c6
    try clear c6b0
    try clear c6b1
    obtain ⟨kq, x19_3, rfl, HA, HJ3, HB⟩ := hcut
    cases kq with
    | zero => exact absurd HA.out (by simp [clapperlaw11_RevokeMerges.j0])
    | succ kj3 =>
      have H := HA.out
      clear HA
      simp only [clapperlaw11_RevokeMerges.j0] at H
      by_cases c7 : x19_3 = true
      · subst c7
        have H1 : (some t202) = some r := by rw [if_pos rfl] at H; exact H
        clear H
        have H := H1
        clear H1
        obtain rfl := Option.some.inj H
        go_wp2
        go_ret
        exact ⟨by first | rfl | (simp [errW_none, errW_some] <;> rfl) | (simp [*, errW_none, errW_some] <;> rfl), by repeat (first | (with_reducible first | exact HB.out | apply below_alloc | apply pw_below_drewN | apply below_drew1) | exact HB.out)⟩
      · replace c7 := Bool.eq_false_iff.mpr c7
        subst c7
        have H1 : ((revoke_Merge.f kj3 l0 l1).bind fun bt203 => ((clapperref11_May.f kj3 l0).bind fun t207 => ((clapperref11_May.f kj3 l1).bind fun t208 => (if t207 = true then (clapperlaw11_RevokeMerges.j1 kj3 l0 l1 t202 bt203.1 bt203.2 (!t208)) else (clapperlaw11_RevokeMerges.j1 kj3 l0 l1 t202 bt203.1 bt203.2 true))))) = some r := by rw [if_neg (show ¬ (false = true) by decide)] at H; exact H
        clear H
        have H := H1
        clear H1
        replace H := Option.bind_eq_some_iff.mp H
        obtain ⟨⟨t203, t206⟩, A80, H⟩ := H
        replace H : ((clapperref11_May.f kj3 l0).bind fun t207 => ((clapperref11_May.f kj3 l1).bind fun t208 => (if t207 = true then (clapperlaw11_RevokeMerges.j1 kj3 l0 l1 t202 t203 t206 (!t208)) else (clapperlaw11_RevokeMerges.j1 kj3 l0 l1 t202 t203 t206 true)))) = some r := H
        have A8 := Aside0.mk A80
        clear A80
        replace H := Option.bind_eq_some_iff.mp H
        obtain ⟨t207, A90, H⟩ := H
        replace H : ((clapperref11_May.f kj3 l1).bind fun t208 => (if t207 = true then (clapperlaw11_RevokeMerges.j1 kj3 l0 l1 t202 t203 t206 (!t208)) else (clapperlaw11_RevokeMerges.j1 kj3 l0 l1 t202 t203 t206 true))) = some r := H
        have A9 := Aside0.mk A90
        clear A90
        replace H := Option.bind_eq_some_iff.mp H
        obtain ⟨t208, A100, H⟩ := H
        replace H : (if t207 = true then (clapperlaw11_RevokeMerges.j1 kj3 l0 l1 t202 t203 t206 (!t208)) else (clapperlaw11_RevokeMerges.j1 kj3 l0 l1 t202 t203 t206 true)) = some r := H
        have A10 := Aside0.mk A100
        clear A100
        have HC11 := Aside0.mk H
        clear H
        go_upto_region 7 with (first | ((with_reducible refine gate_callee (f := 11) rfl ?_); refine goesL_ (some 24) rfl rfl Try.func11 (by kernel_rfl) rfl #[.slice A0 l0.length c0, .slice A1 l1.length c1] rfl (by (try simp only [List.map_toArray, List.map_cons, List.map_nil]); first | done | rfl | (simp only [List.length_drop, List.length_take]; rfl)) ?_; (with_reducible refine (revoke_Merge.calls kj3 (fun k_ => k_ < w.heap.size) _ _ l0 (fun k_ => k_ < w.heap.size) _ _ l1 t203 t206 _ ?side1 ?side2 A8.out).mono ?_); (case side1 => exact Kd.V_mk HC0.out (Kd.F_below (Kd.C_F k61_heap HR0.out) (by repeat (first | (with_reducible first | exact HB.out | apply below_alloc | apply pw_below_drewN | apply below_drew1) | exact HB.out)))); (case side2 => exact Kd.V_mk HC1.out (Kd.F_below (Kd.C_F k61_heap HR1.out) (by repeat (first | (with_reducible first | exact HB.out | apply below_alloc | apply pw_below_drewN | apply below_drew1) | exact HB.out)))); rintro e w12 ⟨v204, rfl, ho0, hb⟩; refine ⟨_, rfl, ?_⟩; have n0_ := Aside0.mk (Kd.R_lower (Kd.R_mono (ok' := fun k_ => True) ho0 (fun _ hk_ => trivial)) (below_size (by repeat (first | (with_reducible first | exact HB.out | apply below_alloc | apply pw_below_drewN | apply below_drew1) | exact HB.out)))); have n1_ := Aside0.mk (below_step (by repeat (first | (with_reducible first | exact HB.out | apply below_alloc | apply pw_below_drewN | apply below_drew1) | exact HB.out)) hb); clear HB; have HO205 := n0_; have HB := n1_; clear n0_ n1_; (try clear hb); (try clear hb2); (try clear hk); (try clear hi); (try clear ho0); (try simp only [errW_none, errW_some])) | ((with_reducible refine gate_callee (f := 12) rfl ?_); refine goesL_ (some 28) rfl rfl Try.func12 (by kernel_rfl) rfl #[.slice A0 l0.length c0] rfl (by (try simp only [List.map_toArray, List.map_cons, List.map_nil]); first | done | rfl | (simp only [List.length_drop, List.length_take]; rfl)) ?_; (with_reducible refine (clapperref11_May.calls kj3 _ _ l0 t207 _ ?side1 ?side2 A9.out).mono ?_); (case side1 => repeat (first | exact (Kd.C_below HR0.out HB.out) | (with_reducible refine Kd.C_alloc ?_ _) | (with_reducible refine Kd.C_drewN ?_ _) | (with_reducible refine Kd.C_drew ?_))); (case side2 => exact HC0.out); rintro e w' ⟨rfl, ⟨nd, rfl⟩⟩; refine ⟨_, rfl, ?_⟩; (try (rw [drewN_self w12]; generalize hq_ : World.drewN w12 _ = w12; have n0_ : Aside0 (Kd.R k61 61 w12 w.heap.size (fun _ => True) v204 t203) := ⟨by rw [← hq_]; exact (by (with_reducible repeat (first | apply Kd.R_alloc | apply Kd.R_drewN | apply Kd.R_drew)); exact HO205.out)⟩; have n1_ : Aside0 (Below w.heap.size w w12) := ⟨by rw [← hq_]; exact (by repeat (first | (with_reducible first | exact HB.out | apply below_alloc | apply pw_below_drewN | apply below_drew1) | exact HB.out))⟩; clear HO205 HB hq_; have HO205 := n0_; have HB := n1_; clear n0_ n1_))) | ((with_reducible refine gate_callee (f := 12) rfl ?_); refine goesL_ (some 30) rfl rfl Try.func12 (by kernel_rfl) rfl #[.slice A1 l1.length c1] rfl (by (try simp only [List.map_toArray, List.map_cons, List.map_nil]); first | done | rfl | (simp only [List.length_drop, List.length_take]; rfl)) ?_; (with_reducible refine (clapperref11_May.calls kj3 _ _ l1 t208 _ ?side1 ?side2 A10.out).mono ?_); (case side1 => repeat (first | exact (Kd.C_below HR1.out HB.out) | (with_reducible refine Kd.C_alloc ?_ _) | (with_reducible refine Kd.C_drewN ?_ _) | (with_reducible refine Kd.C_drew ?_))); (case side2 => exact HC1.out); rintro e w' ⟨rfl, ⟨nd, rfl⟩⟩; refine ⟨_, rfl, ?_⟩; (try (rw [drewN_self w12]; generalize hq_ : World.drewN w12 _ = w12; have n0_ : Aside0 (Kd.R k61 61 w12 w.heap.size (fun _ => True) v204 t203) := ⟨by rw [← hq_]; exact (by (with_reducible repeat (first | apply Kd.R_alloc | apply Kd.R_drewN | apply Kd.R_drew)); exact HO205.out)⟩; have n1_ : Aside0 (Below w.heap.size w w12) := ⟨by rw [← hq_]; exact (by repeat (first | (with_reducible first | exact HB.out | apply below_alloc | apply pw_below_drewN | apply below_drew1) | exact HB.out))⟩; clear HO205 HB hq_; have HO205 := n0_; have HB := n1_; clear n0_ n1_))))
        (try simp only [Act.put, List.setIfInBounds_toArray, List.set_cons_zero, List.set_cons_succ])
        go_cut [36] (fun v36 wc => ∃ (kq : Nat) (x36_10 : Bool), v36 = .bool x36_10 ∧ Aside0 (clapperlaw11_RevokeMerges.j1 kq l0 l1 t202 t203 t206 x36_10 = some r) ∧ Aside0 (kq ≤ kj3) ∧ Aside0 (Kd.R k61 61 wc w.heap.size (fun _ => True) v204 t203) ∧ Aside0 (Below w.heap.size w wc))
        case first =>
          have H := HC11.out
          clear HC11
          by_cases c13 : t207 = true
          · subst c13
            have H1 : (clapperlaw11_RevokeMerges.j1 kj3 l0 l1 t202 t203 t206 (!t208)) = some r := by rw [if_pos rfl] at H; exact H
            clear H
            have H := H1
            clear H1
            have H' := Aside0.mk H
            clear H
            go_wp2
            go_meet
            case rel => exact ⟨_, (!t208), (by first | rfl | (simp; done) | (simp [*]; done)), H', ⟨by have := HJ3.out; first | omega | exact Nat.le_refl _⟩, ⟨by (with_reducible repeat (first | apply Kd.R_alloc | apply Kd.R_drewN | apply Kd.R_drew)); exact HO205.out⟩, ⟨by repeat (first | (with_reducible first | exact HB.out | apply below_alloc | apply pw_below_drewN | apply below_drew1) | exact HB.out)⟩⟩
          · replace c13 := Bool.eq_false_iff.mpr c13
            subst c13
            have H1 : (clapperlaw11_RevokeMerges.j1 kj3 l0 l1 t202 t203 t206 true) = some r := by rw [if_neg (show ¬ (false = true) by decide)] at H; exact H
            clear H
            have H := H1
            clear H1
            have H' := Aside0.mk H
            clear H
            go_wp2
            go_meet
            case rel => exact ⟨_, (true), (by first | rfl | (simp; done) | (simp [*]; done)), H', ⟨by have := HJ3.out; first | omega | exact Nat.le_refl _⟩, ⟨by (with_reducible repeat (first | apply Kd.R_alloc | apply Kd.R_drewN | apply Kd.R_drew)); exact HO205.out⟩, ⟨by repeat (first | (with_reducible first | exact HB.out | apply below_alloc | apply pw_below_drewN | apply below_drew1) | exact HB.out)⟩⟩
        case rest =>
          clear HC11
          try clear c1
          try clear p2
          try clear c3
          try clear c6
          try clear c6b0
          try clear c6b1
          try clear c7
          try clear c10
          try clear c11
          try clear c12
          try clear c13
          try clear p2
          obtain ⟨kq, x36_10, rfl, HA, HJ10, HO_6, HB⟩ := hcut
          cases kq with
          | zero => exact absurd HA.out (by simp [clapperlaw11_RevokeMerges.j1])
          | succ kj10 =>
            have H := HA.out
            clear HA
            simp only [clapperlaw11_RevokeMerges.j1] at H
            by_cases c14 : x36_10 = true
            · subst c14
              have H1 : (if t202 = true then (if t206.isNone = true then (some false) else (if (t206.getD 0) = 1 then (some ((t203.length : Int) == 0)) else (some false))) else (some false)) = some r := by rw [if_pos rfl] at H; exact H
              clear H
              have H := H1
              clear H1
              by_cases c15 : t202 = true
              · subst c15
                have H1 : (if t206.isNone = true then (some false) else (if (t206.getD 0) = 1 then (some ((t203.length : Int) == 0)) else (some false))) = some r := by rw [if_pos rfl] at H; exact H
                clear H
                have H := H1
                clear H1
                rcases t206 with _ | q209
                · have H1 : (some false) = some r := by rw [if_pos (show (none : Option Int).isNone = true by rfl)] at H; exact H
                  clear H
                  have H := H1
                  clear H1
                  try simp only [errW_none, errW_some]
                  exact absurd H (by rw [HT_.out]; simp)
                · have H1 : (if q209 = 1 then (some ((t203.length : Int) == 0)) else (some false)) = some r := by rw [if_neg (show ¬ (some q209).isNone = true by simp)] at H; exact H
                  clear H
                  have H := H1
                  clear H1
                  try simp only [errW_none, errW_some]
                  by_cases c16 : q209 = 1
                  · rw [if_pos c16] at H
                    have c16b0 : (q209 == 1) = true := beq_iff_eq.mpr c16
                    have c16b1 : (q209 != 1) = false := bne_eq_false_iff_eq.mpr c16
                    clear c16
                    obtain rfl := Option.some.inj H
                    obtain ⟨Ao17, co17, eo17⟩ := Kd.R_slice HO_6.out
                    subst eo17
                    go_wp2
                    go_ret
                    exact ⟨by first | rfl | (simp [errW_none, errW_some] <;> rfl) | (simp [*, errW_none, errW_some] <;> rfl), by repeat (first | (with_reducible first | exact HB.out | apply below_alloc | apply pw_below_drewN | apply below_drew1) | exact HB.out)⟩
                  · rw [if_neg c16] at H
                    have c16b0 : (q209 == 1) = false := beq_eq_false_iff_ne.mpr c16
                    have c16b1 : (q209 != 1) = true := bne_iff_ne.mpr c16
                    exact absurd H (by rw [HT_.out]; simp)
              · replace c15 := Bool.eq_false_iff.mpr c15
                subst c15
                have H1 : (some false) = some r := by rw [if_neg (show ¬ (false = true) by decide)] at H; exact H
                clear H
                have H := H1
                clear H1
                exact absurd H (by rw [HT_.out]; simp)
            · replace c14 := Bool.eq_false_iff.mpr c14
              subst c14
              have H1 : ((clapperref11_Merge.f kj10 l0 l1).bind fun t210 => (if (t210.length : Int) > 200 then (if t202 = true then (if t206.isNone = true then (some false) else (if (t206.getD 0) = 3 then (some ((t203.length : Int) == 0)) else (some false))) else (some false)) else (if t202 = true then (if t206.isNone = true then ((clapperref11_Same.f kj10 t203 t210).bind fun t215 => (some t215)) else (some false)) else (some false)))) = some r := by rw [if_neg (show ¬ (false = true) by decide)] at H; exact H
              clear H
              have H := H1
              clear H1
              replace H := Option.bind_eq_some_iff.mp H
              obtain ⟨t210, A180, H⟩ := H
              replace H : (if (t210.length : Int) > 200 then (if t202 = true then (if t206.isNone = true then (some false) else (if (t206.getD 0) = 3 then (some ((t203.length : Int) == 0)) else (some false))) else (some false)) else (if t202 = true then (if t206.isNone = true then ((clapperref11_Same.f kj10 t203 t210).bind fun t215 => (some t215)) else (some false)) else (some false))) = some r := H
              have A18 := Aside0.mk A180
              clear A180
              by_cases c19 : (t210.length : Int) > 200
              · rw [if_pos c19] at H
                have c19b0 : decide (200 < (t210.length : Int)) = true := decide_eq_true c19
                have c19b1 : decide (200 < t210.length) = true := decide_eq_true (by omega)
                clear c19
                by_cases c20 : t202 = true
                · subst c20
                  have H1 : (if t206.isNone = true then (some false) else (if (t206.getD 0) = 3 then (some ((t203.length : Int) == 0)) else (some false))) = some r := by rw [if_pos rfl] at H; exact H
                  clear H
                  have H := H1
                  clear H1
                  rcases t206 with _ | q213
                  · have H1 : (some false) = some r := by rw [if_pos (show (none : Option Int).isNone = true by rfl)] at H; exact H
                    clear H
                    have H := H1
                    clear H1
                    try simp only [errW_none, errW_some]
                    exact absurd H (by rw [HT_.out]; simp)
                  · have H1 : (if q213 = 3 then (some ((t203.length : Int) == 0)) else (some false)) = some r := by rw [if_neg (show ¬ (some q213).isNone = true by simp)] at H; exact H
                    clear H
                    have H := H1
                    clear H1
                    try simp only [errW_none, errW_some]
                    by_cases c21 : q213 = 3
                    · rw [if_pos c21] at H
                      have c21b0 : (q213 == 3) = true := beq_iff_eq.mpr c21
                      have c21b1 : (q213 != 3) = false := bne_eq_false_iff_eq.mpr c21
                      clear c21
                      obtain rfl := Option.some.inj H
                      go_wp2_with (first | ((with_reducible refine gate_callee (f := 13) rfl ?_); refine goesL_ (some 50) rfl rfl Try.func13 (by kernel_rfl) rfl #[.slice A0 l0.length c0, .slice A1 l1.length c1] rfl (by (try simp only [List.map_toArray, List.map_cons, List.map_nil]); first | done | rfl | (simp only [List.length_drop, List.length_take]; rfl)) ?_; (with_reducible refine (clapperref11_Merge.calls kj10 _ _ l0 _ _ l1 t210 _ ?side1 ?side2 ?side3 ?side4 A18.out).mono ?_); (case side1 => repeat (first | exact (Kd.C_below HR0.out HB.out) | (with_reducible refine Kd.C_alloc ?_ _) | (with_reducible refine Kd.C_drewN ?_ _) | (with_reducible refine Kd.C_drew ?_))); (case side2 => exact HC0.out); (case side3 => repeat (first | exact (Kd.C_below HR1.out HB.out) | (with_reducible refine Kd.C_alloc ?_ _) | (with_reducible refine Kd.C_drewN ?_ _) | (with_reducible refine Kd.C_drew ?_))); (case side4 => exact HC1.out); rintro e w22 ⟨v211, rfl, ho0, hb⟩; refine ⟨_, rfl, ?_⟩; have n0_ := Aside0.mk (Kd.R_elder' (by (with_reducible repeat (first | apply Kd.R_alloc | apply Kd.R_drewN | apply Kd.R_drew)); exact HO_6.out) (Kd.R_base ho0) hb); have n1_ := Aside0.mk (Kd.R_lower (Kd.R_new' ho0 (Kd.R_lt (by (with_reducible repeat (first | apply Kd.R_alloc | apply Kd.R_drewN | apply Kd.R_drew)); exact HO_6.out))) (below_size (by repeat (first | (with_reducible first | exact HB.out | apply below_alloc | apply pw_below_drewN | apply below_drew1) | exact HB.out)))); have n2_ := Aside0.mk (below_step (by repeat (first | (with_reducible first | exact HB.out | apply below_alloc | apply pw_below_drewN | apply below_drew1) | exact HB.out)) hb); clear HO_6; clear HB; have HO_6 := n0_; have HO212 := n1_; have HB := n2_; clear n0_ n1_ n2_; (try clear hb); (try clear hb2); (try clear hk); (try clear hi); (try clear ho0); obtain ⟨Ao23, co23, eo23⟩ := Kd.R_slice HO212.out; subst eo23; obtain ⟨Ao24, co24, eo24⟩ := Kd.R_slice HO_6.out; subst eo24))
                      go_ret
                      exact ⟨by first | rfl | (simp [errW_none, errW_some] <;> rfl) | (simp [*, errW_none, errW_some] <;> rfl), by repeat (first | (with_reducible first | exact HB.out | apply below_alloc | apply pw_below_drewN | apply below_drew1) | exact HB.out)⟩
                    · rw [if_neg c21] at H
                      have c21b0 : (q213 == 3) = false := beq_eq_false_iff_ne.mpr c21
                      have c21b1 : (q213 != 3) = true := bne_iff_ne.mpr c21
                      exact absurd H (by rw [HT_.out]; simp)
                · replace c20 := Bool.eq_false_iff.mpr c20
                  subst c20
                  have H1 : (some false) = some r := by rw [if_neg (show ¬ (false = true) by decide)] at H; exact H
                  clear H
                  have H := H1
                  clear H1
                  exact absurd H (by rw [HT_.out]; simp)
              · rw [if_neg c19] at H
                have c19b0 : decide (200 < (t210.length : Int)) = false := decide_eq_false c19
                have c19b1 : decide (200 < t210.length) = false := decide_eq_false (by omega)
                clear c19
                by_cases c25 : t202 = true
                · subst c25
                  have H1 : (if t206.isNone = true then ((clapperref11_Same.f kj10 t203 t210).bind fun t215 => (some t215)) else (some false)) = some r := by rw [if_pos rfl] at H; exact H
                  clear H
                  have H := H1
                  clear H1
                  rcases t206 with _ | q214
                  · have H1 : ((clapperref11_Same.f kj10 t203 t210).bind fun t215 => (some t215)) = some r := by rw [if_pos (show (none : Option Int).isNone = true by rfl)] at H; exact H
                    clear H
                    have H := H1
                    clear H1
                    try simp only [errW_none, errW_some]
                    replace H := Option.bind_eq_some_iff.mp H
                    obtain ⟨t215, A260, H⟩ := H
                    replace H : (some t215) = some r := H
                    have A26 := Aside0.mk A260
                    clear A260
                    obtain rfl := Option.some.inj H
                    go_wp2_with (first | ((with_reducible refine gate_callee (f := 13) rfl ?_); refine goesL_ (some 50) rfl rfl Try.func13 (by kernel_rfl) rfl #[.slice A0 l0.length c0, .slice A1 l1.length c1] rfl (by (try simp only [List.map_toArray, List.map_cons, List.map_nil]); first | done | rfl | (simp only [List.length_drop, List.length_take]; rfl)) ?_; (with_reducible refine (clapperref11_Merge.calls kj10 _ _ l0 _ _ l1 t210 _ ?side1 ?side2 ?side3 ?side4 A18.out).mono ?_); (case side1 => repeat (first | exact (Kd.C_below HR0.out HB.out) | (with_reducible refine Kd.C_alloc ?_ _) | (with_reducible refine Kd.C_drewN ?_ _) | (with_reducible refine Kd.C_drew ?_))); (case side2 => exact HC0.out); (case side3 => repeat (first | exact (Kd.C_below HR1.out HB.out) | (with_reducible refine Kd.C_alloc ?_ _) | (with_reducible refine Kd.C_drewN ?_ _) | (with_reducible refine Kd.C_drew ?_))); (case side4 => exact HC1.out); rintro e w27 ⟨v211, rfl, ho0, hb⟩; refine ⟨_, rfl, ?_⟩; have n0_ := Aside0.mk (Kd.R_elder' (by (with_reducible repeat (first | apply Kd.R_alloc | apply Kd.R_drewN | apply Kd.R_drew)); exact HO_6.out) (Kd.R_base ho0) hb); have n1_ := Aside0.mk (Kd.R_lower (Kd.R_new' ho0 (Kd.R_lt (by (with_reducible repeat (first | apply Kd.R_alloc | apply Kd.R_drewN | apply Kd.R_drew)); exact HO_6.out))) (below_size (by repeat (first | (with_reducible first | exact HB.out | apply below_alloc | apply pw_below_drewN | apply below_drew1) | exact HB.out)))); have n2_ := Aside0.mk (below_step (by repeat (first | (with_reducible first | exact HB.out | apply below_alloc | apply pw_below_drewN | apply below_drew1) | exact HB.out)) hb); clear HO_6; clear HB; have HO_6 := n0_; have HO212 := n1_; have HB := n2_; clear n0_ n1_ n2_; (try clear hb); (try clear hb2); (try clear hk); (try clear hi); (try clear ho0); obtain ⟨Ao28, co28, eo28⟩ := Kd.R_slice HO212.out; subst eo28; obtain ⟨Ao29, co29, eo29⟩ := Kd.R_slice HO_6.out; subst eo29) | (go_at_call 14; (with_reducible refine (clapperref11_Same.calls kj10 _ _ t203 _ _ t210 t215 _ ?side1 ?side2 ?side3 ?side4 A26.out).mono ?_); (case side1 => repeat (first | exact (Kd.R_reads' HO_6.out).2.2 | (with_reducible refine Kd.C_alloc ?_ _) | (with_reducible refine Kd.C_drewN ?_ _) | (with_reducible refine Kd.C_drew ?_))); (case side2 => exact (Kd.R_reads' HO_6.out).2.1); (case side3 => repeat (first | exact (Kd.R_reads' HO212.out).2.2 | (with_reducible refine Kd.C_alloc ?_ _) | (with_reducible refine Kd.C_drewN ?_ _) | (with_reducible refine Kd.C_drew ?_))); (case side4 => exact (Kd.R_reads' HO212.out).2.1); rintro e w' ⟨rfl, ⟨nd, rfl⟩⟩; (try (rw [drewN_self w27]; generalize hq_ : World.drewN w27 _ = w27; have n0_ : Aside0 (Kd.R k61 61 w27 w.heap.size (fun k_ => some k_ ≠ (.slice Ao29 t203.length co29 : Value).ownBlock) (.slice Ao28 t210.length co28) t210) := ⟨by rw [← hq_]; exact (by (with_reducible repeat (first | apply Kd.R_alloc | apply Kd.R_drewN | apply Kd.R_drew)); exact Kd.R_mono HO212.out (fun _ hk => hk.2))⟩; have n1_ : Aside0 (Kd.R k61 61 w27 w.heap.size (fun k_ => some k_ ≠ (.slice Ao28 t210.length co28 : Value).ownBlock) (.slice Ao29 t203.length co29) t203) := ⟨by rw [← hq_]; exact (by (with_reducible repeat (first | apply Kd.R_alloc | apply Kd.R_drewN | apply Kd.R_drew)); exact Kd.R_mono HO_6.out (fun _ hk => hk.2))⟩; have n2_ : Aside0 (Below w.heap.size w w27) := ⟨by rw [← hq_]; exact (by repeat (first | (with_reducible first | exact HB.out | apply below_alloc | apply pw_below_drewN | apply below_drew1) | exact HB.out))⟩; clear HO212 HO_6 HB hq_; have HO212 := n0_; have HO_6 := n1_; have HB := n2_; clear n0_ n1_ n2_))))
                    go_ret
                    exact ⟨by first | rfl | (simp [errW_none, errW_some] <;> rfl) | (simp [*, errW_none, errW_some] <;> rfl), by repeat (first | (with_reducible first | exact HB.out | apply below_alloc | apply pw_below_drewN | apply below_drew1) | exact HB.out)⟩
                  · have H1 : (some false) = some r := by rw [if_neg (show ¬ (some q214).isNone = true by simp)] at H; exact H
                    clear H
                    have H := H1
                    clear H1
                    try simp only [errW_none, errW_some]
                    exact absurd H (by rw [HT_.out]; simp)
                · replace c25 := Bool.eq_false_iff.mpr c25
                  subst c25
                  have H1 : (some false) = some r := by rw [if_neg (show ¬ (false = true) by decide)] at H; exact H
                  clear H
                  have H := H1
                  clear H1
                  exact absurd H (by rw [HT_.out]; simp)

end Go.Proofs.Ytikdfamhgopcdaa.PRevokeMerges
