-- Laid by a program of the session (mkprint2.py): the kit's printer, and contracts by hand among what it prints.
import Derived.Test.YtikdfamhgopcdaaPTlvCutx0
import Derived.Test.YtikdfamhgopcdaaPTlvCutx1
import Derived.Test.YtikdfamhgopcdaaPTlvCutx2
namespace Go.Proofs.Ytikdfamhgopcdaa.PTlvCut
open Go.RowKit Go.Proofs.YtikdfamhgopcdaaW.PrintWords Go.Proofs.YtikdfamhgopcdaaW.PrintLast Go.Proofs.YtikdfamhgopcdaaW.PrintMore
attribute [local go_sem] max2_int min2_int max_two min_two max_three min_three max_four min_four   -- for this text's walks alone
set_option linter.unusedVariables false
set_option linter.unusedSimpArgs false

attribute [local go_sem high] u8_w cast_tmod eql_code neq_code eql_code_nil neq_code_nil eql_nil_code neq_nil_code
/-! ### clapperlaw08_up: function 15 -/
def clapperlaw08_up.f : Option Bool := some true
set_option maxHeartbeats 8000000 in
set_option maxRecDepth 100000 in
theorem clapperlaw08_up.calls (r : Bool) (w : World) (h : clapperlaw08_up.f = some r) :
    Calls Try.prog 15 #[] w fun e w' => e = .returned (.bool r) ∧ Below w.heap.size w w' := by
  obtain rfl : true = r := Option.some.inj h
  have kc := fun (w : World) (C : Array Value) (n c : Nat) => Lib.run_convert_bytes_const (P := Try.prog) w 33 5 C n c Try.underlying33 Try.underlying5
  go_enter Try.func15, Try.ntmps15
  have hput : tlv_Put.f 5 [⟨1, [97]⟩] = some ([1, 0, 1, 97], none) := by kernel_rfl
  have hget : tlv_Get.f 5 [0] = some ([], some 2) := by kernel_rfl
  have HP := Aside0.mk hput
  have HG := Aside0.mk hget
  clear hput hget
  go_wp2_with fail
  refine (tlv_Put.calls 5 _ _ [⟨1, [97]⟩] [1, 0, 1, 97] none _ ?_ (by decide) HP.out).mono ?_
  · refine Kd.C_one1 rfl (k63_mk _ ⟨1, [97]⟩ (A1 := some ⟨w.heap.size, 0, none⟩) (c1 := 1) (by decide) (Kd.C_one1 rfl (Kd.byteK _ 97) rfl ?_)) rfl ?_
    · intro i u hu
      match i, hu with
      | 0, hu =>
        obtain rfl := Option.some.inj hu
        refine Lib.cell?_alloc_marked _ ?_
        simp only [World.cell?, World.alloc, Addr.add, Array.getElem?_push, if_true]
        rfl
    · intro i u hu
      match i, hu with
      | 0, hu => obtain rfl := Option.some.inj hu; simp [Addr.add]
      | 1, hu => obtain rfl := Option.some.inj hu; simp [Addr.add]
  rintro e w1 ⟨v0, rfl, hR, hb⟩
  obtain ⟨A1, c1, rfl, hl, hC⟩ := Kd.R_reads hR
  have HC := Aside0.mk hC
  clear hC hR
  have hb2 : Below w.heap.size w w1 := (((Below.refl _ _).alloc (Nat.le_refl _) _).alloc (by simp) _).trans (hb.mono (by simp; omega))
  have HB := Aside0.mk hb2
  clear hb hb2
  go_wp2_with fail
  refine (tlv_Get.calls 5 _ _ [0] [] (some 2) _ (Kd.C_one1 rfl (Kd.byteK _ 0) rfl ?_) (by decide) HG.out).mono ?_
  · intro i u hu
    match i, hu with
    | 0, hu => obtain rfl := Option.some.inj hu; simp [Addr.add]
  rintro e w2 ⟨v1, rfl, hS, hb⟩
  clear hS
  have hb2 : Below w.heap.size w w2 := (HB.out.alloc HB.out.size _).trans (hb.mono (by have := HB.out.size; simp; omega))
  have hC := Kd.C_below HC.out (((Below.refl _ _).alloc (Nat.le_refl _) _).trans (hb.mono (by simp)))
  have hconv : (convert 33 9 (.slice A1 4 c1)).run Try.prog w2 = .ok (.string ⟨#[1, 0, 1, 97]⟩) w2 := (Kd.C_string (c := c1) Try.underlying33 Try.underlying5 Try.underlying9 hC).trans (by rw [show strOfNums [1, 0, 1, 97] = ⟨#[1, 0, 1, 97]⟩ by kernel_rfl])
  have HB2 := Aside0.mk hb2
  clear hb hb2 hC HC HB
  simp only [errW_none, errW_some]
  go_wp2_with fail
  go_ret
  exact ⟨rfl, HB2.out⟩

/-! ### clapperlaw08_TlvCut: function 5 -/
mutual
def clapperlaw08_TlvCut.j0 : Nat → List (S63) → Int → Bool → Bool → Option (Bool)
  | 0, _, _, _, _ => none
  | k + 1, x0, x1, x5, x20 => if x20 = true then (some x5) else ((tlv_Put.f k x0).bind fun bt136 => (if 0 ≤ (wrap64 ((x0.length : Int) - 1)) then (if (wrap64 ((x0.length : Int) - 1)) ≤ (x0.length : Int) then ((tlv_Put.f k (x0.take ((wrap64 ((x0.length : Int) - 1)) : Int).toNat)).bind fun bt144 => (if bt136.2.isNone = true then (if bt144.2.isNone = true then (clapperlaw08_TlvCut.j1 k x1 x5 bt136.1 bt144.1 false) else (clapperlaw08_TlvCut.j1 k x1 x5 bt136.1 bt144.1 true)) else (clapperlaw08_TlvCut.j1 k x1 x5 bt136.1 bt144.1 true))) else (none)) else (none)))
def clapperlaw08_TlvCut.j1 : Nat → Int → Bool → List Int → List Int → Bool → Option (Bool)
  | 0, _, _, _, _, _ => none
  | k + 1, x1, x5, x6, x8, x41 => if x41 = true then (some x5) else (if x1 ≤ (x8.length : Int) then (if x5 = true then (some (decide ((x6.length : Int) > (x8.length : Int)))) else (some false)) else (if x1 ≥ (x6.length : Int) then (if x5 = true then (some (decide ((x6.length : Int) > (x8.length : Int)))) else (some false)) else (if 0 ≤ x1 then (if x1 ≤ (x6.length : Int) then ((tlv_Get.f k (x6.take (x1 : Int).toNat)).bind fun bt154 => (if x5 = true then (if bt154.2.isNone = true then (some false) else (some ((bt154.2.getD 0) == 2))) else (some false))) else (none)) else (none))))
end
def clapperlaw08_TlvCut.f (k : Nat) (l0 : List (S63)) (a1 : Int) : Option (Bool) := (clapperlaw08_up.f).bind fun t135 => (if (l0.length : Int) = 0 then (clapperlaw08_TlvCut.j0 k l0 a1 t135 true) else (clapperlaw08_TlvCut.j0 k l0 a1 t135 (decide ((l0.length : Int) > 300))))
theorem clapperlaw08_TlvCut.mono_l : ∀ k, (∀ y0 y1 y2 y3, LeO (clapperlaw08_TlvCut.j0 k y0 y1 y2 y3) (clapperlaw08_TlvCut.j0 (k + 1) y0 y1 y2 y3)) ∧ (∀ y0 y1 y2 y3 y4, LeO (clapperlaw08_TlvCut.j1 k y0 y1 y2 y3 y4) (clapperlaw08_TlvCut.j1 (k + 1) y0 y1 y2 y3 y4))
  | 0 => ⟨fun _ _ _ _ r h => by simp [clapperlaw08_TlvCut.j0] at h, fun _ _ _ _ _ r h => by simp [clapperlaw08_TlvCut.j1] at h⟩
  | k + 1 => by
    obtain ⟨ih0, ih1⟩ := clapperlaw08_TlvCut.mono_l k
    refine ⟨?_, ?_⟩
    · intro y0 y1 y2 y3
      unfold clapperlaw08_TlvCut.j0
      repeat' first
      | (with_reducible exact ih0 _ _ _ _)
      | (with_reducible exact ih1 _ _ _ _ _)
      | (with_reducible exact tlv_Get.mono _ _)
      | (with_reducible exact tlv_Put.mono _ _)
      | (with_reducible exact LeO.refl _)
      | (with_reducible exact LeO.none _)
      | (with_reducible refine LeO.ite ?_ ?_)
      | (with_reducible refine LeO.bind ?_ (fun _ => ?_))
      | exact ih0 _ _ _ _
      | exact ih1 _ _ _ _ _
      | exact tlv_Get.mono _ _
      | exact tlv_Put.mono _ _
      | exact LeO.none _
      | refine LeO.ite ?_ ?_
      | refine LeO.bind ?_ (fun _ => ?_)
    · intro y0 y1 y2 y3 y4
      unfold clapperlaw08_TlvCut.j1
      repeat' first
      | (with_reducible exact ih0 _ _ _ _)
      | (with_reducible exact ih1 _ _ _ _ _)
      | (with_reducible exact tlv_Get.mono _ _)
      | (with_reducible exact tlv_Put.mono _ _)
      | (with_reducible exact LeO.refl _)
      | (with_reducible exact LeO.none _)
      | (with_reducible refine LeO.ite ?_ ?_)
      | (with_reducible refine LeO.bind ?_ (fun _ => ?_))
      | exact ih0 _ _ _ _
      | exact ih1 _ _ _ _ _
      | exact tlv_Get.mono _ _
      | exact tlv_Put.mono _ _
      | exact LeO.none _
      | refine LeO.ite ?_ ?_
      | refine LeO.bind ?_ (fun _ => ?_)
theorem clapperlaw08_TlvCut.mono : ∀ a0 a1 k, LeO (clapperlaw08_TlvCut.f k a0 a1) (clapperlaw08_TlvCut.f (k + 1) a0 a1) := by
  intro a0 a1 k
  obtain ⟨ih0, ih1⟩ := clapperlaw08_TlvCut.mono_l k
  unfold clapperlaw08_TlvCut.f
  repeat' first
      | (with_reducible exact ih0 _ _ _ _)
      | (with_reducible exact ih1 _ _ _ _ _)
      | (with_reducible exact tlv_Get.mono _ _)
      | (with_reducible exact tlv_Put.mono _ _)
      | (with_reducible exact LeO.refl _)
      | (with_reducible exact LeO.none _)
      | (with_reducible refine LeO.ite ?_ ?_)
      | (with_reducible refine LeO.bind ?_ (fun _ => ?_))
      | exact ih0 _ _ _ _
      | exact ih1 _ _ _ _ _
      | exact tlv_Get.mono _ _
      | exact tlv_Put.mono _ _
      | exact LeO.none _
      | refine LeO.ite ?_ ?_
      | refine LeO.bind ?_ (fun _ => ?_)
set_option maxHeartbeats 8000000 in
set_option maxRecDepth 100000 in
theorem clapperlaw08_TlvCut.calls (k : Nat) (A0 : Option Addr) (c0 : Nat) (l0 : List (S63)) (a1 : Int) (r : Bool) (w : World) (hr0 : Kd.C k63 w A0 l0.length l0) (hc0 : l0.length ≤ c0) (h : clapperlaw08_TlvCut.f k l0 a1 = some r) :
    Calls Try.prog 5 #[.slice A0 l0.length c0, .int .i64 a1] w fun e w' => e = .returned (.bool r) ∧ Below w.heap.size w w' := by
  have hu25 := Try.underlying25
  have hu29 := Try.underlying29
  have HR0 := Aside0.mk hr0
  have HC0 := Aside0.mk hc0
  clear hr0 hc0
  have HB := Aside0.mk (Below.refl w.heap.size w)
  have H : ((clapperlaw08_up.f).bind fun t135 => (if (l0.length : Int) = 0 then (clapperlaw08_TlvCut.j0 k l0 a1 t135 true) else (clapperlaw08_TlvCut.j0 k l0 a1 t135 (decide ((l0.length : Int) > 300))))) = some r := h
  clear h
  replace H := Option.bind_eq_some_iff.mp H
  obtain ⟨t135, A30, H⟩ := H
  replace H : (if (l0.length : Int) = 0 then (clapperlaw08_TlvCut.j0 k l0 a1 t135 true) else (clapperlaw08_TlvCut.j0 k l0 a1 t135 (decide ((l0.length : Int) > 300)))) = some r := H
  have A3 := Aside0.mk A30
  clear A30
  have HC4 := Aside0.mk H
  clear H
  go_enter Try.func5, Try.ntmps5
  go_upto_region 2 with (first | ((with_reducible refine gate_callee (f := 15) rfl ?_); refine goesL_ (some 12) rfl rfl Try.func15 (by kernel_rfl) rfl #[] rfl (by (try simp only [List.map_toArray, List.map_cons, List.map_nil]); first | done | rfl | (simp only [List.length_drop, List.length_take]; rfl)) ?_; (with_reducible refine (clapperlaw08_up.calls  t135 _ A3.out).mono ?_); rintro e w5 ⟨rfl, hb⟩; refine ⟨_, rfl, ?_⟩; have n0_ := Aside0.mk (below_step (by repeat (first | (with_reducible first | exact HB.out | apply below_alloc | apply pw_below_drewN | apply below_drew1) | exact HB.out)) hb); clear HB; have HB := n0_; clear n0_; (try clear hb); (try clear hb2); (try clear hk); (try clear hi)))
  (try simp only [Act.put, List.setIfInBounds_toArray, List.set_cons_zero, List.set_cons_succ])
  go_cut [20] (fun v20 wc => ∃ (kq : Nat) (x20_3 : Bool), v20 = .bool x20_3 ∧ Aside0 (clapperlaw08_TlvCut.j0 kq l0 a1 t135 x20_3 = some r) ∧ Aside0 (kq ≤ k) ∧ Aside0 (Below w.heap.size w wc))
  case first =>
    have H := HC4.out
    clear HC4
    by_cases c6 : (l0.length : Int) = 0
    · rw [if_pos c6] at H
      have c6b0 : ((l0.length : Int) == 0) = true := beq_iff_eq.mpr c6
      have c6b1 : ((l0.length : Int) != 0) = false := bne_eq_false_iff_eq.mpr c6
      clear c6
      (first | rw [c6b0] | (simp only [i64_w, i32_w]; rw [c6b0]) | skip)
      have H' := Aside0.mk H
      clear H
      go_wp2
      go_meet
      case rel => exact ⟨_, (true), (by first | rfl | (simp; done) | (simp [*]; done)), H', ⟨by first | omega | exact Nat.le_refl _⟩, ⟨by repeat (first | (with_reducible first | exact HB.out | apply below_alloc | apply pw_below_drewN | apply below_drew1) | exact HB.out)⟩⟩
    · rw [if_neg c6] at H
      have c6b0 : ((l0.length : Int) == 0) = false := beq_eq_false_iff_ne.mpr c6
      have c6b1 : ((l0.length : Int) != 0) = true := bne_iff_ne.mpr c6
      have c6b2 : ¬ (l0 = []) := fun h_ => c6 (by rw [h_]; rfl)
      (first | rw [c6b0] | (simp only [i64_w, i32_w]; rw [c6b0]) | skip)
      have H' := Aside0.mk H
      clear H
      go_wp2
      go_meet
      case rel => exact ⟨_, (decide ((l0.length : Int) > 300)), (by first | rfl | (simp; done) | (simp [*]; done)), H', ⟨by first | omega | exact Nat.le_refl _⟩, ⟨by repeat (first | (with_reducible first | exact HB.out | apply below_alloc | apply pw_below_drewN | apply below_drew1) | exact HB.out)⟩⟩
  case rest =>
    clear HC4
    try clear c1
    try clear p2
    try clear c5
    try clear c6
    try clear c6b0
    try clear c6b1
    try clear c6b2
    obtain ⟨kq, x20_3, rfl, HA, HJ3, HB⟩ := hcut
    cases kq with
    | zero => exact absurd HA.out (by simp [clapperlaw08_TlvCut.j0])
    | succ kj3 =>
      have H := HA.out
      clear HA
      simp only [clapperlaw08_TlvCut.j0] at H
      by_cases c7 : x20_3 = true
      · subst c7
        have H1 : (some t135) = some r := by rw [if_pos rfl] at H; exact H
        clear H
        have H := H1
        clear H1
        obtain rfl := Option.some.inj H
        go_wp2
        go_ret
        exact ⟨by first | rfl | (simp [errW_none, errW_some] <;> rfl) | (simp [*, errW_none, errW_some] <;> rfl), by repeat (first | (with_reducible first | exact HB.out | apply below_alloc | apply pw_below_drewN | apply below_drew1) | exact HB.out)⟩
      · replace c7 := Bool.eq_false_iff.mpr c7
        subst c7
        have H1 : ((tlv_Put.f kj3 l0).bind fun bt136 => (if 0 ≤ (wrap64 ((l0.length : Int) - 1)) then (if (wrap64 ((l0.length : Int) - 1)) ≤ (l0.length : Int) then ((tlv_Put.f kj3 (l0.take ((wrap64 ((l0.length : Int) - 1)) : Int).toNat)).bind fun bt144 => (if bt136.2.isNone = true then (if bt144.2.isNone = true then (clapperlaw08_TlvCut.j1 kj3 a1 t135 bt136.1 bt144.1 false) else (clapperlaw08_TlvCut.j1 kj3 a1 t135 bt136.1 bt144.1 true)) else (clapperlaw08_TlvCut.j1 kj3 a1 t135 bt136.1 bt144.1 true))) else (none)) else (none))) = some r := by rw [if_neg (show ¬ (false = true) by decide)] at H; exact H
        clear H
        have H := H1
        clear H1
        replace H := Option.bind_eq_some_iff.mp H
        obtain ⟨⟨t136, t137⟩, A80, H⟩ := H
        replace H : (if 0 ≤ (wrap64 ((l0.length : Int) - 1)) then (if (wrap64 ((l0.length : Int) - 1)) ≤ (l0.length : Int) then ((tlv_Put.f kj3 (l0.take ((wrap64 ((l0.length : Int) - 1)) : Int).toNat)).bind fun bt144 => (if t137.isNone = true then (if bt144.2.isNone = true then (clapperlaw08_TlvCut.j1 kj3 a1 t135 t136 bt144.1 false) else (clapperlaw08_TlvCut.j1 kj3 a1 t135 t136 bt144.1 true)) else (clapperlaw08_TlvCut.j1 kj3 a1 t135 t136 bt144.1 true))) else (none)) else (none)) = some r := H
        have A8 := Aside0.mk A80
        clear A80
        obtain ⟨ji9, hji9⟩ : ∃ j_ : Int, (wrap64 ((l0.length : Int) - 1)) = j_ := ⟨_, rfl⟩
        replace H : (if 0 ≤ (ji9) then (if (ji9) ≤ (l0.length : Int) then ((tlv_Put.f kj3 (l0.take ((ji9) : Int).toNat)).bind fun bt144 => (if t137.isNone = true then (if bt144.2.isNone = true then (clapperlaw08_TlvCut.j1 kj3 a1 t135 t136 bt144.1 false) else (clapperlaw08_TlvCut.j1 kj3 a1 t135 t136 bt144.1 true)) else (clapperlaw08_TlvCut.j1 kj3 a1 t135 t136 bt144.1 true))) else (none)) else (none)) = some r := by first | (rw [hji9] at H; exact H) | (simp only [hji9] at H ⊢; exact H)
        (try rw [hji9] at A8)
        have hji9w : (IntKind.i64.wrap ((l0.length : Int) - 1)) = ji9 := (i64_w _).trans hji9
        by_cases c10 : 0 ≤ (ji9)
        · rw [if_pos c10] at H
          have c10b0 := eq_true c10
          have c10b1 : decide (0 ≤ (ji9)) = true := decide_eq_true c10
          clear c10
          by_cases c11 : (ji9) ≤ (l0.length : Int)
          · rw [if_pos c11] at H
            have c11b0 := eq_true c11
            have c11b1 : decide ((ji9) ≤ (l0.length : Int)) = true := decide_eq_true c11
            clear c11
            obtain ⟨y140, hy140⟩ : ∃ y_ : List (S63), y_ = (l0.take ((ji9) : Int).toNat) := ⟨_, rfl⟩
            replace H : ((tlv_Put.f kj3 y140).bind fun bt144 => (if t137.isNone = true then (if bt144.2.isNone = true then (clapperlaw08_TlvCut.j1 kj3 a1 t135 t136 bt144.1 false) else (clapperlaw08_TlvCut.j1 kj3 a1 t135 t136 bt144.1 true)) else (clapperlaw08_TlvCut.j1 kj3 a1 t135 t136 bt144.1 true))) = some r := by first | (rw [hy140]; with_reducible exact H) | (have H2_ := (Option.bind_some _ _).symm.trans H; rw [hy140]; with_reducible exact H2_) | (have H2_ := (Option.bind_some _ _).symm.trans H; with_reducible exact H2_) | with_reducible exact H | (rw [hy140]; exact H) | exact H
            have Ny140 := Aside0.mk hy140
            clear hy140
            replace H := Option.bind_eq_some_iff.mp H
            obtain ⟨⟨t144, t145⟩, A120, H⟩ := H
            replace H : (if t137.isNone = true then (if t145.isNone = true then (clapperlaw08_TlvCut.j1 kj3 a1 t135 t136 t144 false) else (clapperlaw08_TlvCut.j1 kj3 a1 t135 t136 t144 true)) else (clapperlaw08_TlvCut.j1 kj3 a1 t135 t136 t144 true)) = some r := H
            have A12 := Aside0.mk A120
            clear A120
            have HC13 := Aside0.mk H
            clear H
            go_upto_region 6 with (first | ((with_reducible refine gate_callee (f := 16) rfl ?_); refine goesL_ (some 24) rfl rfl Try.func16 (by kernel_rfl) rfl #[.slice A0 l0.length c0] rfl (by (try simp only [List.map_toArray, List.map_cons, List.map_nil]); first | done | rfl | (simp only [List.length_drop, List.length_take]; rfl)) ?_; (with_reducible refine (tlv_Put.calls kj3 _ _ l0 t136 t137 _ ?side1 ?side2 A8.out).mono ?_); (case side1 => repeat (first | exact (Kd.C_below HR0.out HB.out) | (with_reducible refine Kd.C_alloc ?_ _) | (with_reducible refine Kd.C_drewN ?_ _) | (with_reducible refine Kd.C_drew ?_))); (case side2 => exact HC0.out); rintro e w14 ⟨v138, rfl, ho0, hb⟩; refine ⟨_, rfl, ?_⟩; have n0_ := Aside0.mk (Kd.R_lower ho0 (below_size (by repeat (first | (with_reducible first | exact HB.out | apply below_alloc | apply pw_below_drewN | apply below_drew1) | exact HB.out)))); have n1_ := Aside0.mk (below_step (by repeat (first | (with_reducible first | exact HB.out | apply below_alloc | apply pw_below_drewN | apply below_drew1) | exact HB.out)) hb); clear HB; have HO139 := n0_; have HB := n1_; clear n0_ n1_; (try clear hb); (try clear hb2); (try clear hk); (try clear hi); (try clear ho0); (try simp only [errW_none, errW_some]); have q15 : ((ji9) : Int) ≤ ((l0.length : Int) : Int) := of_decide_eq_true (by first | (with_reducible assumption) | assumption); obtain ⟨i015, hi015, _, hsz15, _⟩ := info_parts info63; have hroom15 : l0.length ≤ c0 := HC0.out; have hC15 : Kd.C k63 _ A0 l0.length l0 := HR0.out; have hcut15 := cut_to (P := Try.prog) 32 63 .i64 Try.underlying32 hi015 A0 l0.length c0 (ji9) (of_decide_eq_true (by first | (with_reducible assumption) | assumption)) q15 hroom15; have hr15 := Kd.C_take (m := ((ji9) : Int).toNat) hC15 (by omega); have hy15 : y140.length = ((ji9) : Int).toNat := (by rw [Ny140.out, List.length_take]; omega); rw [← Ny140.out] at hr15; rw [← hy15] at hcut15; have HR143 := Aside0.mk hr15; have HC143 := Aside0.mk (show y140.length ≤ c0 from by omega); clear hr15 hC15 hroom15 hi015 hsz15; have KY15 := Aside0.mk hy15; clear hy15; replace q15 := eq_true q15) | ((with_reducible refine gate_callee (f := 16) rfl ?_); refine goesL_ (some 33) rfl rfl Try.func16 (by kernel_rfl) rfl #[.slice A0 y140.length c0] rfl (by (try simp only [List.map_toArray, List.map_cons, List.map_nil]); first | done | rfl | (simp only [List.length_drop, List.length_take]; rfl)) ?_; (with_reducible refine (tlv_Put.calls kj3 _ _ y140 t144 t145 _ ?side1 ?side2 A12.out).mono ?_); (case side1 => repeat (first | exact (Kd.C_below HR143.out HB.out) | (with_reducible refine Kd.C_alloc ?_ _) | (with_reducible refine Kd.C_drewN ?_ _) | (with_reducible refine Kd.C_drew ?_))); (case side2 => exact HC143.out); rintro e w16 ⟨v146, rfl, ho0, hb⟩; refine ⟨_, rfl, ?_⟩; have n0_ := Aside0.mk (Kd.R_elder' (by (with_reducible repeat (first | apply Kd.R_alloc | apply Kd.R_drewN | apply Kd.R_drew)); exact HO139.out) (Kd.R_base ho0) hb); have n1_ := Aside0.mk (Kd.R_lower (Kd.R_new' ho0 (Kd.R_lt (by (with_reducible repeat (first | apply Kd.R_alloc | apply Kd.R_drewN | apply Kd.R_drew)); exact HO139.out))) (below_size (by repeat (first | (with_reducible first | exact HB.out | apply below_alloc | apply pw_below_drewN | apply below_drew1) | exact HB.out)))); have n2_ := Aside0.mk (below_step (by repeat (first | (with_reducible first | exact HB.out | apply below_alloc | apply pw_below_drewN | apply below_drew1) | exact HB.out)) hb); clear HO139; clear HB; have HO139 := n0_; have HO147 := n1_; have HB := n2_; clear n0_ n1_ n2_; (try clear hb); (try clear hb2); (try clear hk); (try clear hi); (try clear ho0); (try simp only [errW_none, errW_some])))
            (try simp only [Act.put, List.setIfInBounds_toArray, List.set_cons_zero, List.set_cons_succ])
            go_cut [41] (fun v41 wc => ∃ (kq : Nat) (x41_12 : Bool), v41 = .bool x41_12 ∧ Aside0 (clapperlaw08_TlvCut.j1 kq a1 t135 t136 t144 x41_12 = some r) ∧ Aside0 (kq ≤ kj3) ∧ Aside0 (Kd.R (Kd.int .u8) 5 wc w.heap.size (fun k_ => some k_ ≠ (v146 : Value).ownBlock) v138 t136) ∧ Aside0 (Kd.R (Kd.int .u8) 5 wc w.heap.size (fun k_ => some k_ ≠ (v138 : Value).ownBlock) v146 t144) ∧ Aside0 (Below w.heap.size w wc))
            case first =>
              have H := HC13.out
              clear HC13
              rcases t137 with _ | q148
              · have H1 : (if t145.isNone = true then (clapperlaw08_TlvCut.j1 kj3 a1 t135 t136 t144 false) else (clapperlaw08_TlvCut.j1 kj3 a1 t135 t136 t144 true)) = some r := by rw [if_pos (show (none : Option Int).isNone = true by rfl)] at H; exact H
                clear H
                have H := H1
                clear H1
                try simp only [errW_none, errW_some]
                rcases t145 with _ | q149
                · have H1 : (clapperlaw08_TlvCut.j1 kj3 a1 t135 t136 t144 false) = some r := by rw [if_pos (show (none : Option Int).isNone = true by rfl)] at H; exact H
                  clear H
                  have H := H1
                  clear H1
                  try simp only [errW_none, errW_some]
                  have H' := Aside0.mk H
                  clear H
                  go_wp2
                  go_meet
                  case rel => exact ⟨_, (false), (by first | rfl | (simp; done) | (simp [*]; done)), H', ⟨by have := HJ3.out; first | omega | exact Nat.le_refl _⟩, ⟨by (with_reducible repeat (first | apply Kd.R_alloc | apply Kd.R_drewN | apply Kd.R_drew)); exact Kd.R_mono HO139.out (fun _ hk => hk.2)⟩, ⟨by (with_reducible repeat (first | apply Kd.R_alloc | apply Kd.R_drewN | apply Kd.R_drew)); exact Kd.R_mono HO147.out (fun _ hk => hk.2)⟩, ⟨by repeat (first | (with_reducible first | exact HB.out | apply below_alloc | apply pw_below_drewN | apply below_drew1) | exact HB.out)⟩⟩
                · have H1 : (clapperlaw08_TlvCut.j1 kj3 a1 t135 t136 t144 true) = some r := by rw [if_neg (show ¬ (some q149).isNone = true by simp)] at H; exact H
                  clear H
                  have H := H1
                  clear H1
                  try simp only [errW_none, errW_some]
                  have H' := Aside0.mk H
                  clear H
                  go_wp2
                  go_meet
                  case rel => exact ⟨_, (true), (by first | rfl | (simp; done) | (simp [*]; done)), H', ⟨by have := HJ3.out; first | omega | exact Nat.le_refl _⟩, ⟨by (with_reducible repeat (first | apply Kd.R_alloc | apply Kd.R_drewN | apply Kd.R_drew)); exact Kd.R_mono HO139.out (fun _ hk => hk.2)⟩, ⟨by (with_reducible repeat (first | apply Kd.R_alloc | apply Kd.R_drewN | apply Kd.R_drew)); exact Kd.R_mono HO147.out (fun _ hk => hk.2)⟩, ⟨by repeat (first | (with_reducible first | exact HB.out | apply below_alloc | apply pw_below_drewN | apply below_drew1) | exact HB.out)⟩⟩
              · have H1 : (clapperlaw08_TlvCut.j1 kj3 a1 t135 t136 t144 true) = some r := by rw [if_neg (show ¬ (some q148).isNone = true by simp)] at H; exact H
                clear H
                have H := H1
                clear H1
                try simp only [errW_none, errW_some]
                have H' := Aside0.mk H
                clear H
                go_wp2
                go_meet
                case rel => exact ⟨_, (true), (by first | rfl | (simp; done) | (simp [*]; done)), H', ⟨by have := HJ3.out; first | omega | exact Nat.le_refl _⟩, ⟨by (with_reducible repeat (first | apply Kd.R_alloc | apply Kd.R_drewN | apply Kd.R_drew)); exact Kd.R_mono HO139.out (fun _ hk => hk.2)⟩, ⟨by (with_reducible repeat (first | apply Kd.R_alloc | apply Kd.R_drewN | apply Kd.R_drew)); exact Kd.R_mono HO147.out (fun _ hk => hk.2)⟩, ⟨by repeat (first | (with_reducible first | exact HB.out | apply below_alloc | apply pw_below_drewN | apply below_drew1) | exact HB.out)⟩⟩
            case rest =>
              clear HC13
              try clear c1
              try clear q1
              try clear p2
              try clear c5
              try clear c6
              try clear c6b0
              try clear c6b1
              try clear c6b2
              try clear p6
              try clear c7
              try clear c10
              try clear c10b0
              try clear c10b1
              try clear c11
              try clear c11b0
              try clear c11b1
              try clear q14
              try clear c15
              try clear q15
              try clear c16
              try clear p2
              try clear q148
              try clear q149
              try clear q15
              obtain ⟨kq, x41_12, rfl, HA, HJ12, HO_6, HO_8, HB⟩ := hcut
              cases kq with
              | zero => exact absurd HA.out (by simp [clapperlaw08_TlvCut.j1])
              | succ kj12 =>
                have H := HA.out
                clear HA
                simp only [clapperlaw08_TlvCut.j1] at H
                by_cases c17 : x41_12 = true
                · subst c17
                  have H1 : (some t135) = some r := by rw [if_pos rfl] at H; exact H
                  clear H
                  have H := H1
                  clear H1
                  obtain rfl := Option.some.inj H
                  go_wp2
                  go_ret
                  exact ⟨by first | rfl | (simp [errW_none, errW_some] <;> rfl) | (simp only [← hji9]; first | rfl | (simp [errW_none, errW_some] <;> rfl)) | (simp [*, errW_none, errW_some] <;> rfl), by repeat (first | (with_reducible first | exact HB.out | apply below_alloc | apply pw_below_drewN | apply below_drew1) | exact HB.out)⟩
                · replace c17 := Bool.eq_false_iff.mpr c17
                  subst c17
                  have H1 : (if a1 ≤ (t144.length : Int) then (if t135 = true then (some (decide ((t136.length : Int) > (t144.length : Int)))) else (some false)) else (if a1 ≥ (t136.length : Int) then (if t135 = true then (some (decide ((t136.length : Int) > (t144.length : Int)))) else (some false)) else (if 0 ≤ a1 then (if a1 ≤ (t136.length : Int) then ((tlv_Get.f kj12 (t136.take (a1 : Int).toNat)).bind fun bt154 => (if t135 = true then (if bt154.2.isNone = true then (some false) else (some ((bt154.2.getD 0) == 2))) else (some false))) else (none)) else (none)))) = some r := by rw [if_neg (show ¬ (false = true) by decide)] at H; exact H
                  clear H
                  have H := H1
                  clear H1
                  by_cases c18 : a1 ≤ (t144.length : Int)
                  · rw [if_pos c18] at H
                    have c18b0 : decide (a1 ≤ (t144.length : Int)) = true := decide_eq_true c18
                    clear c18
                    by_cases c19 : t135 = true
                    · subst c19
                      have H1 : (some (decide ((t136.length : Int) > (t144.length : Int)))) = some r := by rw [if_pos rfl] at H; exact H
                      clear H
                      have H := H1
                      clear H1
                      obtain rfl := Option.some.inj H
                      obtain ⟨Ao20, co20, eo20⟩ := Kd.R_slice HO_8.out
                      subst eo20
                      obtain ⟨Ao21, co21, eo21⟩ := Kd.R_slice HO_6.out
                      subst eo21
                      go_wp2
                      go_ret
                      exact ⟨by first | rfl | (simp [errW_none, errW_some] <;> rfl) | (simp only [← hji9]; first | rfl | (simp [errW_none, errW_some] <;> rfl)) | (simp [*, errW_none, errW_some] <;> rfl), by repeat (first | (with_reducible first | exact HB.out | apply below_alloc | apply pw_below_drewN | apply below_drew1) | exact HB.out)⟩
                    · replace c19 := Bool.eq_false_iff.mpr c19
                      subst c19
                      have H1 : (some false) = some r := by rw [if_neg (show ¬ (false = true) by decide)] at H; exact H
                      clear H
                      have H := H1
                      clear H1
                      obtain rfl := Option.some.inj H
                      obtain ⟨Ao22, co22, eo22⟩ := Kd.R_slice HO_8.out
                      subst eo22
                      go_wp2
                      go_ret
                      exact ⟨by first | rfl | (simp [errW_none, errW_some] <;> rfl) | (simp only [← hji9]; first | rfl | (simp [errW_none, errW_some] <;> rfl)) | (simp [*, errW_none, errW_some] <;> rfl), by repeat (first | (with_reducible first | exact HB.out | apply below_alloc | apply pw_below_drewN | apply below_drew1) | exact HB.out)⟩
                  · rw [if_neg c18] at H
                    have c18b0 : decide (a1 ≤ (t144.length : Int)) = false := decide_eq_false c18
                    clear c18
                    by_cases c23 : a1 ≥ (t136.length : Int)
                    · rw [if_pos c23] at H
                      have c23b0 : decide ((t136.length : Int) ≤ a1) = true := decide_eq_true c23
                      clear c23
                      by_cases c24 : t135 = true
                      · subst c24
                        have H1 : (some (decide ((t136.length : Int) > (t144.length : Int)))) = some r := by rw [if_pos rfl] at H; exact H
                        clear H
                        have H := H1
                        clear H1
                        obtain rfl := Option.some.inj H
                        obtain ⟨Ao25, co25, eo25⟩ := Kd.R_slice HO_8.out
                        subst eo25
                        obtain ⟨Ao26, co26, eo26⟩ := Kd.R_slice HO_6.out
                        subst eo26
                        go_wp2
                        go_ret
                        exact ⟨by first | rfl | (simp [errW_none, errW_some] <;> rfl) | (simp only [← hji9]; first | rfl | (simp [errW_none, errW_some] <;> rfl)) | (simp [*, errW_none, errW_some] <;> rfl), by repeat (first | (with_reducible first | exact HB.out | apply below_alloc | apply pw_below_drewN | apply below_drew1) | exact HB.out)⟩
                      · replace c24 := Bool.eq_false_iff.mpr c24
                        subst c24
                        have H1 : (some false) = some r := by rw [if_neg (show ¬ (false = true) by decide)] at H; exact H
                        clear H
                        have H := H1
                        clear H1
                        obtain rfl := Option.some.inj H
                        obtain ⟨Ao27, co27, eo27⟩ := Kd.R_slice HO_8.out
                        subst eo27
                        obtain ⟨Ao28, co28, eo28⟩ := Kd.R_slice HO_6.out
                        subst eo28
                        go_wp2
                        go_ret
                        exact ⟨by first | rfl | (simp [errW_none, errW_some] <;> rfl) | (simp only [← hji9]; first | rfl | (simp [errW_none, errW_some] <;> rfl)) | (simp [*, errW_none, errW_some] <;> rfl), by repeat (first | (with_reducible first | exact HB.out | apply below_alloc | apply pw_below_drewN | apply below_drew1) | exact HB.out)⟩
                    · rw [if_neg c23] at H
                      have c23b0 : decide ((t136.length : Int) ≤ a1) = false := decide_eq_false c23
                      clear c23
                      by_cases c29 : 0 ≤ a1
                      · rw [if_pos c29] at H
                        have c29b0 := eq_true c29
                        have c29b1 : decide (0 ≤ a1) = true := decide_eq_true c29
                        clear c29
                        by_cases c30 : a1 ≤ (t136.length : Int)
                        · rw [if_pos c30] at H
                          have c30b0 := eq_true c30
                          have c30b1 : decide (a1 ≤ (t136.length : Int)) = true := decide_eq_true c30
                          clear c30
                          obtain ⟨y150, hy150⟩ : ∃ y_ : List Int, y_ = (t136.take (a1 : Int).toNat) := ⟨_, rfl⟩
                          replace H : ((tlv_Get.f kj12 y150).bind fun bt154 => (if t135 = true then (if bt154.2.isNone = true then (some false) else (some ((bt154.2.getD 0) == 2))) else (some false))) = some r := by first | (rw [hy150]; with_reducible exact H) | (have H2_ := (Option.bind_some _ _).symm.trans H; rw [hy150]; with_reducible exact H2_) | (have H2_ := (Option.bind_some _ _).symm.trans H; with_reducible exact H2_) | with_reducible exact H | (rw [hy150]; exact H) | exact H
                          have Ny150 := Aside0.mk hy150
                          clear hy150
                          replace H := Option.bind_eq_some_iff.mp H
                          obtain ⟨⟨t154, t155⟩, A310, H⟩ := H
                          replace H : (if t135 = true then (if t155.isNone = true then (some false) else (some ((t155.getD 0) == 2))) else (some false)) = some r := H
                          have A31 := Aside0.mk A310
                          clear A310
                          by_cases c32 : t135 = true
                          · subst c32
                            have H1 : (if t155.isNone = true then (some false) else (some ((t155.getD 0) == 2))) = some r := by rw [if_pos rfl] at H; exact H
                            clear H
                            have H := H1
                            clear H1
                            rcases t155 with _ | q158
                            · have H1 : (some false) = some r := by rw [if_pos (show (none : Option Int).isNone = true by rfl)] at H; exact H
                              clear H
                              have H := H1
                              clear H1
                              try simp only [errW_none, errW_some]
                              obtain rfl := Option.some.inj H
                              obtain ⟨Ao33, co33, eo33⟩ := Kd.R_slice HO_8.out
                              subst eo33
                              obtain ⟨Ao34, co34, eo34⟩ := Kd.R_slice HO_6.out
                              subst eo34
                              have q35 : (a1 : Int) ≤ ((t136.length : Int) : Int) := of_decide_eq_true (by first | (with_reducible assumption) | assumption)
                              obtain ⟨i035, hi035, _, hsz35, _⟩ := info_parts info5
                              have hroom35 : t136.length ≤ co34 := (Kd.R_reads' HO_6.out).2.1
                              have hC35 : Kd.C (Kd.int .u8) _ Ao34 t136.length t136 := (Kd.R_reads' HO_6.out).2.2
                              have hcut35 := cut_to (P := Try.prog) 33 5 .i64 Try.underlying33 hi035 Ao34 t136.length co34 a1 (of_decide_eq_true (by first | (with_reducible assumption) | assumption)) q35 hroom35
                              have hr35 := Kd.C_take (m := (a1 : Int).toNat) hC35 (by omega)
                              have hy35 : y150.length = (a1 : Int).toNat := (by rw [Ny150.out, List.length_take]; omega)
                              rw [← Ny150.out] at hr35
                              rw [← hy35] at hcut35
                              have HR153 := Aside0.mk hr35
                              have HC153 := Aside0.mk (show y150.length ≤ co34 from by omega)
                              clear hr35 hC35 hroom35 hi035 hsz35
                              have KY35 := Aside0.mk hy35
                              clear hy35
                              have KL35 := Aside0.mk (show (a1 : Int).toNat ≤ t136.length from by omega)
                              replace q35 := eq_true q35
                              go_wp2_with (first | ((with_reducible refine gate_callee (f := 20) rfl ?_); refine goesL_ (some 65) rfl rfl Try.func20 (by kernel_rfl) rfl #[.slice Ao34 y150.length co34] rfl (by (try simp only [List.map_toArray, List.map_cons, List.map_nil]); first | done | rfl | (simp only [List.length_drop, List.length_take]; rfl)) ?_; (with_reducible refine (tlv_Get.calls kj12 _ _ y150 t154 none _ ?side1 ?side2 A31.out).mono ?_); (case side1 => repeat (first | exact (by repeat (first | (with_reducible exact HR153.out) | (with_reducible refine Kd.C_alloc ?_ _) | (with_reducible refine Kd.C_drewN ?_ _) | (with_reducible refine Kd.C_drew ?_) | exact HR153.out)) | (with_reducible refine Kd.C_alloc ?_ _) | (with_reducible refine Kd.C_drewN ?_ _) | (with_reducible refine Kd.C_drew ?_))); (case side2 => exact HC153.out); rintro e w36 ⟨v156, rfl, ho0, hb⟩; refine ⟨_, rfl, ?_⟩; have n0_ := Aside0.mk (Kd.R_below (by (with_reducible repeat (first | apply Kd.R_alloc | apply Kd.R_drewN | apply Kd.R_drew)); exact HO_6.out) hb); have n1_ := Aside0.mk (Kd.R_below (by (with_reducible repeat (first | apply Kd.R_alloc | apply Kd.R_drewN | apply Kd.R_drew)); exact HO_8.out) hb); have n2_ := Aside0.mk (Kd.S_lower (Kd.S_new' (Kd.S_new' ho0 (Kd.R_lt (by (with_reducible repeat (first | apply Kd.R_alloc | apply Kd.R_drewN | apply Kd.R_drew)); exact HO_6.out))) (Kd.R_lt (by (with_reducible repeat (first | apply Kd.R_alloc | apply Kd.R_drewN | apply Kd.R_drew)); exact HO_8.out))) (below_size (by repeat (first | (with_reducible first | exact HB.out | apply below_alloc | apply pw_below_drewN | apply below_drew1) | exact HB.out)))); have n3_ := Aside0.mk (Kd.C_below (by repeat (first | (with_reducible exact HR153.out) | (with_reducible refine Kd.C_alloc ?_ _) | (with_reducible refine Kd.C_drewN ?_ _) | (with_reducible refine Kd.C_drew ?_) | exact HR153.out)) hb); have n4_ := Aside0.mk (below_step (by repeat (first | (with_reducible first | exact HB.out | apply below_alloc | apply pw_below_drewN | apply below_drew1) | exact HB.out)) hb); clear HO_6; clear HO_8; clear HR153; clear HB; have HO_6 := n0_; have HO_8 := n1_; have HO157 := n2_; have HR153 := n3_; have HB := n4_; clear n0_ n1_ n2_ n3_ n4_; (try clear hb); (try clear hb2); (try clear hk); (try clear hi); (try clear ho0); (try simp only [errW_none, errW_some])))
                              go_ret
                              exact ⟨by first | rfl | (simp [errW_none, errW_some] <;> rfl) | (simp only [← hji9]; first | rfl | (simp [errW_none, errW_some] <;> rfl)) | (simp [*, errW_none, errW_some] <;> rfl), by repeat (first | (with_reducible first | exact HB.out | apply below_alloc | apply pw_below_drewN | apply below_drew1) | exact HB.out)⟩
                            · have H1 : (some (q158 == 2)) = some r := by rw [if_neg (show ¬ (some q158).isNone = true by simp)] at H; exact H
                              clear H
                              have H := H1
                              clear H1
                              try simp only [errW_none, errW_some]
                              obtain rfl := Option.some.inj H
                              obtain ⟨Ao37, co37, eo37⟩ := Kd.R_slice HO_8.out
                              subst eo37
                              obtain ⟨Ao38, co38, eo38⟩ := Kd.R_slice HO_6.out
                              subst eo38
                              have q39 : (a1 : Int) ≤ ((t136.length : Int) : Int) := of_decide_eq_true (by first | (with_reducible assumption) | assumption)
                              obtain ⟨i039, hi039, _, hsz39, _⟩ := info_parts info5
                              have hroom39 : t136.length ≤ co38 := (Kd.R_reads' HO_6.out).2.1
                              have hC39 : Kd.C (Kd.int .u8) _ Ao38 t136.length t136 := (Kd.R_reads' HO_6.out).2.2
                              have hcut39 := cut_to (P := Try.prog) 33 5 .i64 Try.underlying33 hi039 Ao38 t136.length co38 a1 (of_decide_eq_true (by first | (with_reducible assumption) | assumption)) q39 hroom39
                              have hr39 := Kd.C_take (m := (a1 : Int).toNat) hC39 (by omega)
                              have hy39 : y150.length = (a1 : Int).toNat := (by rw [Ny150.out, List.length_take]; omega)
                              rw [← Ny150.out] at hr39
                              rw [← hy39] at hcut39
                              have HR153 := Aside0.mk hr39
                              have HC153 := Aside0.mk (show y150.length ≤ co38 from by omega)
                              clear hr39 hC39 hroom39 hi039 hsz39
                              have KY39 := Aside0.mk hy39
                              clear hy39
                              have KL39 := Aside0.mk (show (a1 : Int).toNat ≤ t136.length from by omega)
                              replace q39 := eq_true q39
                              go_wp2_with (first | ((with_reducible refine gate_callee (f := 20) rfl ?_); refine goesL_ (some 65) rfl rfl Try.func20 (by kernel_rfl) rfl #[.slice Ao38 y150.length co38] rfl (by (try simp only [List.map_toArray, List.map_cons, List.map_nil]); first | done | rfl | (simp only [List.length_drop, List.length_take]; rfl)) ?_; (with_reducible refine (tlv_Get.calls kj12 _ _ y150 t154 (some q158) _ ?side1 ?side2 A31.out).mono ?_); (case side1 => repeat (first | exact (by repeat (first | (with_reducible exact HR153.out) | (with_reducible refine Kd.C_alloc ?_ _) | (with_reducible refine Kd.C_drewN ?_ _) | (with_reducible refine Kd.C_drew ?_) | exact HR153.out)) | (with_reducible refine Kd.C_alloc ?_ _) | (with_reducible refine Kd.C_drewN ?_ _) | (with_reducible refine Kd.C_drew ?_))); (case side2 => exact HC153.out); rintro e w40 ⟨v156, rfl, ho0, hb⟩; refine ⟨_, rfl, ?_⟩; have n0_ := Aside0.mk (Kd.R_below (by (with_reducible repeat (first | apply Kd.R_alloc | apply Kd.R_drewN | apply Kd.R_drew)); exact HO_6.out) hb); have n1_ := Aside0.mk (Kd.R_below (by (with_reducible repeat (first | apply Kd.R_alloc | apply Kd.R_drewN | apply Kd.R_drew)); exact HO_8.out) hb); have n2_ := Aside0.mk (Kd.S_lower (Kd.S_new' (Kd.S_new' ho0 (Kd.R_lt (by (with_reducible repeat (first | apply Kd.R_alloc | apply Kd.R_drewN | apply Kd.R_drew)); exact HO_6.out))) (Kd.R_lt (by (with_reducible repeat (first | apply Kd.R_alloc | apply Kd.R_drewN | apply Kd.R_drew)); exact HO_8.out))) (below_size (by repeat (first | (with_reducible first | exact HB.out | apply below_alloc | apply pw_below_drewN | apply below_drew1) | exact HB.out)))); have n3_ := Aside0.mk (Kd.C_below (by repeat (first | (with_reducible exact HR153.out) | (with_reducible refine Kd.C_alloc ?_ _) | (with_reducible refine Kd.C_drewN ?_ _) | (with_reducible refine Kd.C_drew ?_) | exact HR153.out)) hb); have n4_ := Aside0.mk (below_step (by repeat (first | (with_reducible first | exact HB.out | apply below_alloc | apply pw_below_drewN | apply below_drew1) | exact HB.out)) hb); clear HO_6; clear HO_8; clear HR153; clear HB; have HO_6 := n0_; have HO_8 := n1_; have HO157 := n2_; have HR153 := n3_; have HB := n4_; clear n0_ n1_ n2_ n3_ n4_; (try clear hb); (try clear hb2); (try clear hk); (try clear hi); (try clear ho0); (try simp only [errW_none, errW_some])))
                              go_ret
                              exact ⟨by first | rfl | (simp [errW_none, errW_some] <;> rfl) | (simp only [← hji9]; first | rfl | (simp [errW_none, errW_some] <;> rfl)) | (simp [*, errW_none, errW_some] <;> rfl), by repeat (first | (with_reducible first | exact HB.out | apply below_alloc | apply pw_below_drewN | apply below_drew1) | exact HB.out)⟩
                          · replace c32 := Bool.eq_false_iff.mpr c32
                            subst c32
                            have H1 : (some false) = some r := by rw [if_neg (show ¬ (false = true) by decide)] at H; exact H
                            clear H
                            have H := H1
                            clear H1
                            obtain rfl := Option.some.inj H
                            obtain ⟨Ao41, co41, eo41⟩ := Kd.R_slice HO_8.out
                            subst eo41
                            obtain ⟨Ao42, co42, eo42⟩ := Kd.R_slice HO_6.out
                            subst eo42
                            have q43 : (a1 : Int) ≤ ((t136.length : Int) : Int) := of_decide_eq_true (by first | (with_reducible assumption) | assumption)
                            obtain ⟨i043, hi043, _, hsz43, _⟩ := info_parts info5
                            have hroom43 : t136.length ≤ co42 := (Kd.R_reads' HO_6.out).2.1
                            have hC43 : Kd.C (Kd.int .u8) _ Ao42 t136.length t136 := (Kd.R_reads' HO_6.out).2.2
                            have hcut43 := cut_to (P := Try.prog) 33 5 .i64 Try.underlying33 hi043 Ao42 t136.length co42 a1 (of_decide_eq_true (by first | (with_reducible assumption) | assumption)) q43 hroom43
                            have hr43 := Kd.C_take (m := (a1 : Int).toNat) hC43 (by omega)
                            have hy43 : y150.length = (a1 : Int).toNat := (by rw [Ny150.out, List.length_take]; omega)
                            rw [← Ny150.out] at hr43
                            rw [← hy43] at hcut43
                            have HR153 := Aside0.mk hr43
                            have HC153 := Aside0.mk (show y150.length ≤ co42 from by omega)
                            clear hr43 hC43 hroom43 hi043 hsz43
                            have KY43 := Aside0.mk hy43
                            clear hy43
                            have KL43 := Aside0.mk (show (a1 : Int).toNat ≤ t136.length from by omega)
                            replace q43 := eq_true q43
                            go_wp2_with (first | ((with_reducible refine gate_callee (f := 20) rfl ?_); refine goesL_ (some 65) rfl rfl Try.func20 (by kernel_rfl) rfl #[.slice Ao42 y150.length co42] rfl (by (try simp only [List.map_toArray, List.map_cons, List.map_nil]); first | done | rfl | (simp only [List.length_drop, List.length_take]; rfl)) ?_; (with_reducible refine (tlv_Get.calls kj12 _ _ y150 t154 t155 _ ?side1 ?side2 A31.out).mono ?_); (case side1 => repeat (first | exact (by repeat (first | (with_reducible exact HR153.out) | (with_reducible refine Kd.C_alloc ?_ _) | (with_reducible refine Kd.C_drewN ?_ _) | (with_reducible refine Kd.C_drew ?_) | exact HR153.out)) | (with_reducible refine Kd.C_alloc ?_ _) | (with_reducible refine Kd.C_drewN ?_ _) | (with_reducible refine Kd.C_drew ?_))); (case side2 => exact HC153.out); rintro e w44 ⟨v156, rfl, ho0, hb⟩; refine ⟨_, rfl, ?_⟩; have n0_ := Aside0.mk (Kd.R_below (by (with_reducible repeat (first | apply Kd.R_alloc | apply Kd.R_drewN | apply Kd.R_drew)); exact HO_6.out) hb); have n1_ := Aside0.mk (Kd.R_below (by (with_reducible repeat (first | apply Kd.R_alloc | apply Kd.R_drewN | apply Kd.R_drew)); exact HO_8.out) hb); have n2_ := Aside0.mk (Kd.S_lower (Kd.S_new' (Kd.S_new' ho0 (Kd.R_lt (by (with_reducible repeat (first | apply Kd.R_alloc | apply Kd.R_drewN | apply Kd.R_drew)); exact HO_6.out))) (Kd.R_lt (by (with_reducible repeat (first | apply Kd.R_alloc | apply Kd.R_drewN | apply Kd.R_drew)); exact HO_8.out))) (below_size (by repeat (first | (with_reducible first | exact HB.out | apply below_alloc | apply pw_below_drewN | apply below_drew1) | exact HB.out)))); have n3_ := Aside0.mk (Kd.C_below (by repeat (first | (with_reducible exact HR153.out) | (with_reducible refine Kd.C_alloc ?_ _) | (with_reducible refine Kd.C_drewN ?_ _) | (with_reducible refine Kd.C_drew ?_) | exact HR153.out)) hb); have n4_ := Aside0.mk (below_step (by repeat (first | (with_reducible first | exact HB.out | apply below_alloc | apply pw_below_drewN | apply below_drew1) | exact HB.out)) hb); clear HO_6; clear HO_8; clear HR153; clear HB; have HO_6 := n0_; have HO_8 := n1_; have HO157 := n2_; have HR153 := n3_; have HB := n4_; clear n0_ n1_ n2_ n3_ n4_; (try clear hb); (try clear hb2); (try clear hk); (try clear hi); (try clear ho0); (try simp only [errW_none, errW_some])))
                            go_ret
                            exact ⟨by first | rfl | (simp [errW_none, errW_some] <;> rfl) | (simp only [← hji9]; first | rfl | (simp [errW_none, errW_some] <;> rfl)) | (simp [*, errW_none, errW_some] <;> rfl), by repeat (first | (with_reducible first | exact HB.out | apply below_alloc | apply pw_below_drewN | apply below_drew1) | exact HB.out)⟩
                        · rw [if_neg c30] at H
                          exact absurd H (by simp)
                      · rw [if_neg c29] at H
                        exact absurd H (by simp)
          · rw [if_neg c11] at H
            exact absurd H (by simp)
        · rw [if_neg c10] at H
          exact absurd H (by simp)

end Go.Proofs.Ytikdfamhgopcdaa.PTlvCut
