-- Laid by a program of the session (mkprint2.py): the kit's printer, and contracts by hand among what it prints.
import Derived.Test.YtikdfamhgopcdaaPTlvBackx0
import Derived.Test.YtikdfamhgopcdaaPTlvBackx1
import Derived.Test.YtikdfamhgopcdaaPTlvBackx2
namespace Go.Proofs.Ytikdfamhgopcdaa.PTlvBack
open Go.RowKit Go.Proofs.YtikdfamhgopcdaaW.PrintWords Go.Proofs.YtikdfamhgopcdaaW.PrintLast Go.Proofs.YtikdfamhgopcdaaW.PrintMore
attribute [local go_sem] max2_int min2_int max_two min_two max_three min_three max_four min_four   -- for this text's walks alone
set_option linter.unusedVariables false
set_option linter.unusedSimpArgs false

attribute [local go_sem high] u8_w cast_tmod eql_code neq_code eql_code_nil neq_code_nil eql_nil_code neq_nil_code
/-! ### clapperlaw08_up: function 15 -/
def clapperlaw08_up.f : Option Bool := some true
set_option maxHeartbeats 8000000 in
set_option maxRecDepth 100000 in
theorem clapperlaw08_up.calls (r : Bool) (w : World) (h : clapperlaw08_up.f = some r) :
    Calls Try.prog 15 #[] w fun e w' => e = .returned (.bool r) ∧ Below w.heap.size w w' := by
  obtain rfl : true = r := Option.some.inj h
  have kc := fun (w : World) (C : Array Value) (n c : Nat) => Lib.run_convert_bytes_const (P := Try.prog) w 33 5 C n c Try.underlying33 Try.underlying5
  go_enter Try.func15, Try.ntmps15
  have hput : tlv_Put.f 5 [⟨1, [97]⟩] = some ([1, 0, 1, 97], none) := by kernel_rfl
  have hget : tlv_Get.f 5 [0] = some ([], some 2) := by kernel_rfl
  have HP := Aside0.mk hput
  have HG := Aside0.mk hget
  clear hput hget
  go_wp2_with fail
  refine (tlv_Put.calls 5 _ _ [⟨1, [97]⟩] [1, 0, 1, 97] none _ ?_ (by decide) HP.out).mono ?_
  · refine Kd.C_one1 rfl (k63_mk _ ⟨1, [97]⟩ (A1 := some ⟨w.heap.size, 0, none⟩) (c1 := 1) (by decide) (Kd.C_one1 rfl (Kd.byteK _ 97) rfl ?_)) rfl ?_
    · intro i u hu
      match i, hu with
      | 0, hu =>
        obtain rfl := Option.some.inj hu
        refine Lib.cell?_alloc_marked _ ?_
        simp only [World.cell?, World.alloc, Addr.add, Array.getElem?_push, if_true]
        rfl
    · intro i u hu
      match i, hu with
      | 0, hu => obtain rfl := Option.some.inj hu; simp [Addr.add]
      | 1, hu => obtain rfl := Option.some.inj hu; simp [Addr.add]
  rintro e w1 ⟨v0, rfl, hR, hb⟩
  obtain ⟨A1, c1, rfl, hl, hC⟩ := Kd.R_reads hR
  have HC := Aside0.mk hC
  clear hC hR
  have hb2 : Below w.heap.size w w1 := (((Below.refl _ _).alloc (Nat.le_refl _) _).alloc (by simp) _).trans (hb.mono (by simp; omega))
  have HB := Aside0.mk hb2
  clear hb hb2
  go_wp2_with fail
  refine (tlv_Get.calls 5 _ _ [0] [] (some 2) _ (Kd.C_one1 rfl (Kd.byteK _ 0) rfl ?_) (by decide) HG.out).mono ?_
  · intro i u hu
    match i, hu with
    | 0, hu => obtain rfl := Option.some.inj hu; simp [Addr.add]
  rintro e w2 ⟨v1, rfl, hS, hb⟩
  clear hS
  have hb2 : Below w.heap.size w w2 := (HB.out.alloc HB.out.size _).trans (hb.mono (by have := HB.out.size; simp; omega))
  have hC := Kd.C_below HC.out (((Below.refl _ _).alloc (Nat.le_refl _) _).trans (hb.mono (by simp)))
  have hconv : (convert 33 9 (.slice A1 4 c1)).run Try.prog w2 = .ok (.string ⟨#[1, 0, 1, 97]⟩) w2 := (Kd.C_string (c := c1) Try.underlying33 Try.underlying5 Try.underlying9 hC).trans (by rw [show strOfNums [1, 0, 1, 97] = ⟨#[1, 0, 1, 97]⟩ by kernel_rfl])
  have HB2 := Aside0.mk hb2
  clear hb hb2 hC HC HB
  simp only [errW_none, errW_some]
  go_wp2_with fail
  go_ret
  exact ⟨rfl, HB2.out⟩

/-! ### clapperref08_Same: function 22 -/
def clapperref08_Same.l0 : Nat → List (S63) → List (S63) → Int → Option (Bool)
  | 0, _, _, _ => none
  | k + 1, x0, x1, x5 => if x5 < (x0.length : Int) then (if 0 ≤ x5 then (if x5 < (x1.length : Int) then (if ((rd_T63 x0 x5).f0) = ((rd_T63 x1 x5).f0) then (if (strOfNums ((rd_T63 x0 x5).f1)).toList = (strOfNums ((rd_T63 x1 x5).f1)).toList then (clapperref08_Same.l0 k x0 x1 (wrap64 (x5 + 1))) else (some false)) else (some false)) else (none)) else (none)) else (some true)
def clapperref08_Same.f (k : Nat) (l0 : List (S63)) (l1 : List (S63)) : Option (Bool) := if (l0.length : Int) = (l1.length : Int) then (clapperref08_Same.l0 k l0 l1 0) else (some false)
theorem clapperref08_Same.mono_l : ∀ k, (∀ y0 y1 y2, LeO (clapperref08_Same.l0 k y0 y1 y2) (clapperref08_Same.l0 (k + 1) y0 y1 y2))
  | 0 => fun _ _ _ r h => by simp [clapperref08_Same.l0] at h
  | k + 1 => by
    have ih0 := clapperref08_Same.mono_l k
    · intro y0 y1 y2
      unfold clapperref08_Same.l0
      repeat' first
      | (with_reducible exact ih0 _ _ _)
      | (with_reducible exact LeO.refl _)
      | (with_reducible exact LeO.none _)
      | (with_reducible refine LeO.ite ?_ ?_)
      | (with_reducible refine LeO.bind ?_ (fun _ => ?_))
      | exact ih0 _ _ _
      | exact LeO.none _
      | refine LeO.ite ?_ ?_
      | refine LeO.bind ?_ (fun _ => ?_)
theorem clapperref08_Same.mono : ∀ a0 a1 k, LeO (clapperref08_Same.f k a0 a1) (clapperref08_Same.f (k + 1) a0 a1) := by
  intro a0 a1 k
  have ih0 := clapperref08_Same.mono_l k
  unfold clapperref08_Same.f
  repeat' first
      | (with_reducible exact ih0 _ _ _)
      | (with_reducible exact LeO.refl _)
      | (with_reducible exact LeO.none _)
      | (with_reducible refine LeO.ite ?_ ?_)
      | (with_reducible refine LeO.bind ?_ (fun _ => ?_))
      | exact ih0 _ _ _
      | exact LeO.none _
      | refine LeO.ite ?_ ?_
      | refine LeO.bind ?_ (fun _ => ?_)
set_option maxHeartbeats 8000000 in
set_option maxRecDepth 100000 in
theorem clapperref08_Same.calls (k : Nat) (A0 : Option Addr) (c0 : Nat) (l0 : List (S63)) (A1 : Option Addr) (c1 : Nat) (l1 : List (S63)) (r : Bool) (w : World) (hr0 : Kd.C k63 w A0 l0.length l0) (hc0 : l0.length ≤ c0) (hr1 : Kd.C k63 w A1 l1.length l1) (hc1 : l1.length ≤ c1) (h : clapperref08_Same.f k l0 l1 = some r) :
    Calls Try.prog 22 #[.slice A0 l0.length c0, .slice A1 l1.length c1] w fun e w' => e = .returned (.bool r) ∧ Drawn0 w w' := by
  have HR0 := Aside0.mk hr0
  have HC0 := Aside0.mk hc0
  clear hr0 hc0
  have HR1 := Aside0.mk hr1
  have HC1 := Aside0.mk hc1
  clear hr1 hc1
  have H : (if (l0.length : Int) = (l1.length : Int) then (clapperref08_Same.l0 k l0 l1 0) else (some false)) = some r := h
  clear h
  by_cases c3 : (l0.length : Int) = (l1.length : Int)
  · rw [if_pos c3] at H
    have c3b0 : ((l0.length : Int) == (l1.length : Int)) = true := beq_iff_eq.mpr c3
    have c3b1 : ((l0.length : Int) != (l1.length : Int)) = false := bne_eq_false_iff_eq.mpr c3
    have c3b2 : (l0.length == l1.length) = true := by first | simpa using c3 | (simp at c3 ⊢; omega)
    clear c3
    have H' := Aside0.mk H
    clear H
    go_enter Try.func22, Try.ntmps22
    go_wp2
    repeat (go_quiet (fail); try go_wp2)
    go_loopg [5] k (fun kq v5 w' => ∃ (x5_1 : Int), v5 = .int .i64 x5_1 ∧ Aside0 (clapperref08_Same.l0 kq l0 l1 x5_1 = some r) ∧ Aside0 (kq ≤ k) ∧ Drawn0 w w')
    case atStart => exact ⟨(0), (by first | rfl | (simp; done) | (simp [*]; done)), H', ⟨Nat.le_refl _⟩, by repeat (first | exact Drawn0.refl _ | apply Drawn0.step)⟩
    case round =>
      clear H'
      try clear c1
      try clear c2
      try clear p2
      try clear c3
      try clear c3b0
      try clear c3b1
      try clear c3b2
      obtain ⟨x5_1, rfl, HA, HK1, ⟨m1, rfl⟩⟩ := hrel
      cases gk with
      | zero => exact absurd HA.out (by simp [clapperref08_Same.l0])
      | succ k1 =>
        have H := HA.out
        clear HA
        simp only [clapperref08_Same.l0] at H
        by_cases c4 : x5_1 < (l0.length : Int)
        · rw [if_pos c4] at H
          have c4b0 : decide (x5_1 < (l0.length : Int)) = true := decide_eq_true c4
          clear c4
          by_cases c5 : 0 ≤ x5_1
          · rw [if_pos c5] at H
            have c5b0 : decide (0 ≤ x5_1) = true := decide_eq_true c5
            clear c5
            by_cases c6 : x5_1 < (l1.length : Int)
            · rw [if_pos c6] at H
              have c6b0 : decide (x5_1 < (l1.length : Int)) = true := decide_eq_true c6
              clear c6
              by_cases c7 : ((rd_T63 l0 x5_1).f0) = ((rd_T63 l1 x5_1).f0)
              · rw [if_pos c7] at H
                have c7b0 : (((rd_T63 l0 x5_1).f0) == ((rd_T63 l1 x5_1).f0)) = true := beq_iff_eq.mpr c7
                have c7b1 : (((rd_T63 l0 x5_1).f0) != ((rd_T63 l1 x5_1).f0)) = false := bne_eq_false_iff_eq.mpr c7
                clear c7
                by_cases c8 : (strOfNums ((rd_T63 l0 x5_1).f1)).toList = (strOfNums ((rd_T63 l1 x5_1).f1)).toList
                · rw [if_pos c8] at H
                  have c8b0 : ((strOfNums ((rd_T63 l0 x5_1).f1)).toList == (strOfNums ((rd_T63 l1 x5_1).f1)).toList) = true := beq_iff_eq.mpr c8
                  have c8b1 : ((strOfNums ((rd_T63 l0 x5_1).f1)).toList != (strOfNums ((rd_T63 l1 x5_1).f1)).toList) = false := bne_eq_false_iff_eq.mpr c8
                  clear c8
                  have H' := Aside0.mk H
                  clear H
                  have p135 : 0 ≤ (x5_1 : Int) := of_decide_eq_true (by first | (with_reducible assumption) | assumption)
                  have q135 : x5_1 < (l0.length : Int) := of_decide_eq_true (by first | (with_reducible assumption) | assumption)
                  obtain ⟨ad135, A135_1, c135_1, e135, hx135_0, hx135_1, hl135_1, hi135_1⟩ := at_T63 HR0.out x5_1 p135 q135
                  cases e135
                  have HR135_1 := Aside0.mk hi135_1
                  have HC135_1 := Aside0.mk hl135_1
                  clear hi135_1 hl135_1
                  replace p135 := eq_true p135
                  replace q135 := eq_true q135
                  have p136 : 0 ≤ (x5_1 : Int) := of_decide_eq_true (by first | (with_reducible assumption) | assumption)
                  have q136 : x5_1 < (l1.length : Int) := of_decide_eq_true (by first | (with_reducible assumption) | assumption)
                  obtain ⟨ad136, A136_1, c136_1, e136, hx136_0, hx136_1, hl136_1, hi136_1⟩ := at_T63 HR1.out x5_1 p136 q136
                  cases e136
                  have HR136_1 := Aside0.mk hi136_1
                  have HC136_1 := Aside0.mk hl136_1
                  clear hi136_1 hl136_1
                  replace p136 := eq_true p136
                  replace q136 := eq_true q136
                  have p137 : 0 ≤ (x5_1 : Int) := of_decide_eq_true (by first | (with_reducible assumption) | assumption)
                  have q137 : x5_1 < (l0.length : Int) := of_decide_eq_true (by first | (with_reducible assumption) | assumption)
                  obtain ⟨ad137, A137_1, c137_1, e137, hx137_0, hx137_1, hl137_1, hi137_1⟩ := at_T63 HR0.out x5_1 p137 q137
                  obtain rfl : ad135 = ad137 := (by injection e137)
                  have HR137_1 := Aside0.mk hi137_1
                  have HC137_1 := Aside0.mk hl137_1
                  clear hi137_1 hl137_1
                  replace p137 := eq_true p137
                  replace q137 := eq_true q137
                  have ea_ := Option.some.inj (hx135_1.symm.trans hx137_1)
                  injection ea_ with ea_ en_ ec_
                  subst ea_
                  subst ec_
                  clear en_
                  have hcv9 := Kd.C_string (P := Try.prog) (A := A135_1) (c := c135_1) Try.underlying33 Try.underlying5 Try.underlying9 HR137_1.out
                  have hcv9d := fun (m_ : Nat) => Kd.C_string (P := Try.prog) (A := A135_1) (c := c135_1) Try.underlying33 Try.underlying5 Try.underlying9 (Kd.C_drewN HR137_1.out m_)
                  have p138 : 0 ≤ (x5_1 : Int) := of_decide_eq_true (by first | (with_reducible assumption) | assumption)
                  have q138 : x5_1 < (l1.length : Int) := of_decide_eq_true (by first | (with_reducible assumption) | assumption)
                  obtain ⟨ad138, A138_1, c138_1, e138, hx138_0, hx138_1, hl138_1, hi138_1⟩ := at_T63 HR1.out x5_1 p138 q138
                  obtain rfl : ad136 = ad138 := (by injection e138)
                  have HR138_1 := Aside0.mk hi138_1
                  have HC138_1 := Aside0.mk hl138_1
                  clear hi138_1 hl138_1
                  replace p138 := eq_true p138
                  replace q138 := eq_true q138
                  have ea_ := Option.some.inj (hx136_1.symm.trans hx138_1)
                  injection ea_ with ea_ en_ ec_
                  subst ea_
                  subst ec_
                  clear en_
                  have hcv10 := Kd.C_string (P := Try.prog) (A := A136_1) (c := c136_1) Try.underlying33 Try.underlying5 Try.underlying9 HR138_1.out
                  have hcv10d := fun (m_ : Nat) => Kd.C_string (P := Try.prog) (A := A136_1) (c := c136_1) Try.underlying33 Try.underlying5 Try.underlying9 (Kd.C_drewN HR138_1.out m_)
                  go_wp2
                  repeat (go_quiet (fail); try go_wp2)
                  go_roundg k1
                  case measure => have := HK1.out; omega
                  case rel => exact ⟨(wrap64 (x5_1 + 1)), (by first | rfl | (simp; done) | (simp [*]; done)), H', ⟨by have := HK1.out; omega⟩, by repeat (first | exact Drawn0.refl _ | apply Drawn0.step)⟩
                · rw [if_neg c8] at H
                  have c8b0 : ((strOfNums ((rd_T63 l0 x5_1).f1)).toList == (strOfNums ((rd_T63 l1 x5_1).f1)).toList) = false := beq_eq_false_iff_ne.mpr c8
                  have c8b1 : ((strOfNums ((rd_T63 l0 x5_1).f1)).toList != (strOfNums ((rd_T63 l1 x5_1).f1)).toList) = true := bne_iff_ne.mpr c8
                  obtain rfl := Option.some.inj H
                  have p135 : 0 ≤ (x5_1 : Int) := of_decide_eq_true (by first | (with_reducible assumption) | assumption)
                  have q135 : x5_1 < (l0.length : Int) := of_decide_eq_true (by first | (with_reducible assumption) | assumption)
                  obtain ⟨ad135, A135_1, c135_1, e135, hx135_0, hx135_1, hl135_1, hi135_1⟩ := at_T63 HR0.out x5_1 p135 q135
                  cases e135
                  have HR135_1 := Aside0.mk hi135_1
                  have HC135_1 := Aside0.mk hl135_1
                  clear hi135_1 hl135_1
                  replace p135 := eq_true p135
                  replace q135 := eq_true q135
                  have p136 : 0 ≤ (x5_1 : Int) := of_decide_eq_true (by first | (with_reducible assumption) | assumption)
                  have q136 : x5_1 < (l1.length : Int) := of_decide_eq_true (by first | (with_reducible assumption) | assumption)
                  obtain ⟨ad136, A136_1, c136_1, e136, hx136_0, hx136_1, hl136_1, hi136_1⟩ := at_T63 HR1.out x5_1 p136 q136
                  cases e136
                  have HR136_1 := Aside0.mk hi136_1
                  have HC136_1 := Aside0.mk hl136_1
                  clear hi136_1 hl136_1
                  replace p136 := eq_true p136
                  replace q136 := eq_true q136
                  have p137 : 0 ≤ (x5_1 : Int) := of_decide_eq_true (by first | (with_reducible assumption) | assumption)
                  have q137 : x5_1 < (l0.length : Int) := of_decide_eq_true (by first | (with_reducible assumption) | assumption)
                  obtain ⟨ad137, A137_1, c137_1, e137, hx137_0, hx137_1, hl137_1, hi137_1⟩ := at_T63 HR0.out x5_1 p137 q137
                  obtain rfl : ad135 = ad137 := (by injection e137)
                  have HR137_1 := Aside0.mk hi137_1
                  have HC137_1 := Aside0.mk hl137_1
                  clear hi137_1 hl137_1
                  replace p137 := eq_true p137
                  replace q137 := eq_true q137
                  have ea_ := Option.some.inj (hx135_1.symm.trans hx137_1)
                  injection ea_ with ea_ en_ ec_
                  subst ea_
                  subst ec_
                  clear en_
                  have hcv11 := Kd.C_string (P := Try.prog) (A := A135_1) (c := c135_1) Try.underlying33 Try.underlying5 Try.underlying9 HR137_1.out
                  have hcv11d := fun (m_ : Nat) => Kd.C_string (P := Try.prog) (A := A135_1) (c := c135_1) Try.underlying33 Try.underlying5 Try.underlying9 (Kd.C_drewN HR137_1.out m_)
                  have p138 : 0 ≤ (x5_1 : Int) := of_decide_eq_true (by first | (with_reducible assumption) | assumption)
                  have q138 : x5_1 < (l1.length : Int) := of_decide_eq_true (by first | (with_reducible assumption) | assumption)
                  obtain ⟨ad138, A138_1, c138_1, e138, hx138_0, hx138_1, hl138_1, hi138_1⟩ := at_T63 HR1.out x5_1 p138 q138
                  obtain rfl : ad136 = ad138 := (by injection e138)
                  have HR138_1 := Aside0.mk hi138_1
                  have HC138_1 := Aside0.mk hl138_1
                  clear hi138_1 hl138_1
                  replace p138 := eq_true p138
                  replace q138 := eq_true q138
                  have ea_ := Option.some.inj (hx136_1.symm.trans hx138_1)
                  injection ea_ with ea_ en_ ec_
                  subst ea_
                  subst ec_
                  clear en_
                  have hcv12 := Kd.C_string (P := Try.prog) (A := A136_1) (c := c136_1) Try.underlying33 Try.underlying5 Try.underlying9 HR138_1.out
                  have hcv12d := fun (m_ : Nat) => Kd.C_string (P := Try.prog) (A := A136_1) (c := c136_1) Try.underlying33 Try.underlying5 Try.underlying9 (Kd.C_drewN HR138_1.out m_)
                  go_wp2
                  repeat (go_quiet (fail); try go_wp2)
                  go_ret
                  exact ⟨by first | rfl | (simp; done) | (simp [*]; done), by repeat (first | exact Drawn0.refl _ | apply Drawn0.step)⟩
              · rw [if_neg c7] at H
                have c7b0 : (((rd_T63 l0 x5_1).f0) == ((rd_T63 l1 x5_1).f0)) = false := beq_eq_false_iff_ne.mpr c7
                have c7b1 : (((rd_T63 l0 x5_1).f0) != ((rd_T63 l1 x5_1).f0)) = true := bne_iff_ne.mpr c7
                obtain rfl := Option.some.inj H
                have p135 : 0 ≤ (x5_1 : Int) := of_decide_eq_true (by first | (with_reducible assumption) | assumption)
                have q135 : x5_1 < (l0.length : Int) := of_decide_eq_true (by first | (with_reducible assumption) | assumption)
                obtain ⟨ad135, A135_1, c135_1, e135, hx135_0, hx135_1, hl135_1, hi135_1⟩ := at_T63 HR0.out x5_1 p135 q135
                cases e135
                have HR135_1 := Aside0.mk hi135_1
                have HC135_1 := Aside0.mk hl135_1
                clear hi135_1 hl135_1
                replace p135 := eq_true p135
                replace q135 := eq_true q135
                have p136 : 0 ≤ (x5_1 : Int) := of_decide_eq_true (by first | (with_reducible assumption) | assumption)
                have q136 : x5_1 < (l1.length : Int) := of_decide_eq_true (by first | (with_reducible assumption) | assumption)
                obtain ⟨ad136, A136_1, c136_1, e136, hx136_0, hx136_1, hl136_1, hi136_1⟩ := at_T63 HR1.out x5_1 p136 q136
                cases e136
                have HR136_1 := Aside0.mk hi136_1
                have HC136_1 := Aside0.mk hl136_1
                clear hi136_1 hl136_1
                replace p136 := eq_true p136
                replace q136 := eq_true q136
                go_wp2
                repeat (go_quiet (fail); try go_wp2)
                go_ret
                exact ⟨by first | rfl | (simp; done) | (simp [*]; done), by repeat (first | exact Drawn0.refl _ | apply Drawn0.step)⟩
            · rw [if_neg c6] at H
              exact absurd H (by simp)
          · rw [if_neg c5] at H
            exact absurd H (by simp)
        · rw [if_neg c4] at H
          have c4b0 : decide (x5_1 < (l0.length : Int)) = false := decide_eq_false c4
          clear c4
          obtain rfl := Option.some.inj H
          go_wp2
          repeat (go_quiet (fail); try go_wp2)
          go_ret
          exact ⟨by first | rfl | (simp; done) | (simp [*]; done), by repeat (first | exact Drawn0.refl _ | apply Drawn0.step)⟩
  · rw [if_neg c3] at H
    have c3b0 : ((l0.length : Int) == (l1.length : Int)) = false := beq_eq_false_iff_ne.mpr c3
    have c3b1 : ((l0.length : Int) != (l1.length : Int)) = true := bne_iff_ne.mpr c3
    have c3b2 : (l0.length == l1.length) = false := by first | simpa using c3 | (simp at c3 ⊢; omega)
    obtain rfl := Option.some.inj H
    go_enter Try.func22, Try.ntmps22
    go_wp2
    repeat (go_quiet (fail); try go_wp2)
    go_ret
    exact ⟨by first | rfl | (simp; done) | (simp [*]; done), by repeat (first | exact Drawn0.refl _ | apply Drawn0.step)⟩

/-! ### tlv_Of: function 23 -/
def tlv_Of.l0 : Nat → Int → List Int → Int → Int → Option (Int × Option Int)
  | 0, _, _, _, _ => none
  | k + 1, x4, x11, x12, x13 => if x13 < x12 then (if 0 ≤ x13 then (if x13 < (x11.length : Int) then (tlv_Of.l0 k (Go.bits .or .u64 (IntKind.u64.wrap (x4 * 256)) (IntKind.u64.wrap (rd x11 x13))) x11 x12 (wrap64 (x13 + 1))) else (none)) else (none)) else (if x4 > 9223372036854775807 then (some (0, some 2)) else (some (wrap64 (x4), none)))
def tlv_Of.f (k : Nat) (l0 : List Int) : Option (Int × Option Int) := if (l0.length : Int) = 8 then (tlv_Of.l0 k 0 l0 (l0.length : Int) 0) else (some (0, some 2))
theorem tlv_Of.mono_l : ∀ k, (∀ y0 y1 y2 y3, LeO (tlv_Of.l0 k y0 y1 y2 y3) (tlv_Of.l0 (k + 1) y0 y1 y2 y3))
  | 0 => fun _ _ _ _ r h => by simp [tlv_Of.l0] at h
  | k + 1 => by
    have ih0 := tlv_Of.mono_l k
    · intro y0 y1 y2 y3
      unfold tlv_Of.l0
      repeat' first
      | (with_reducible exact ih0 _ _ _ _)
      | (with_reducible exact LeO.refl _)
      | (with_reducible exact LeO.none _)
      | (with_reducible refine LeO.ite ?_ ?_)
      | (with_reducible refine LeO.bind ?_ (fun _ => ?_))
      | exact ih0 _ _ _ _
      | exact LeO.none _
      | refine LeO.ite ?_ ?_
      | refine LeO.bind ?_ (fun _ => ?_)
theorem tlv_Of.mono : ∀ a0 k, LeO (tlv_Of.f k a0) (tlv_Of.f (k + 1) a0) := by
  intro a0 k
  have ih0 := tlv_Of.mono_l k
  unfold tlv_Of.f
  repeat' first
      | (with_reducible exact ih0 _ _ _ _)
      | (with_reducible exact LeO.refl _)
      | (with_reducible exact LeO.none _)
      | (with_reducible refine LeO.ite ?_ ?_)
      | (with_reducible refine LeO.bind ?_ (fun _ => ?_))
      | exact ih0 _ _ _ _
      | exact LeO.none _
      | refine LeO.ite ?_ ?_
      | refine LeO.bind ?_ (fun _ => ?_)
set_option maxHeartbeats 8000000 in
set_option maxRecDepth 100000 in
theorem tlv_Of.calls (k : Nat) (A0 : Option Addr) (c0 : Nat) (l0 : List Int) (r1 : Int) (r2 : Option Int) (w : World) (hr0 : Kd.C (Kd.int .u8) w A0 l0.length l0) (hc0 : l0.length ≤ c0) (h : tlv_Of.f k l0 = some (r1, r2)) :
    Calls Try.prog 23 #[.slice A0 l0.length c0] w fun e w' => e = .returned (.tuple #[.int .i64 r1, errW r2]) ∧ Drawn0 w w' := by
  have hu25 := Try.underlying25
  have hu29 := Try.underlying29
  have HR0 := Aside0.mk hr0
  have HC0 := Aside0.mk hc0
  clear hr0 hc0
  have H : (if (l0.length : Int) = 8 then (tlv_Of.l0 k 0 l0 (l0.length : Int) 0) else (some (0, some 2))) = some (r1, r2) := h
  clear h
  by_cases c2 : (l0.length : Int) = 8
  · rw [if_pos c2] at H
    have c2b0 : ((l0.length : Int) == 8) = true := beq_iff_eq.mpr c2
    have c2b1 : ((l0.length : Int) != 8) = false := bne_eq_false_iff_eq.mpr c2
    clear c2
    have H' := Aside0.mk H
    clear H
    go_enter Try.func23, Try.ntmps23
    go_wp2
    go_loopg [4, 13] k (fun kq v4 v13 w' => ∃ (x4_1 : Int) (x13_1 : Int), v4 = .int .u64 x4_1 ∧ v13 = .int .i64 x13_1 ∧ Aside0 (tlv_Of.l0 kq x4_1 l0 (l0.length : Int) x13_1 = some (r1, r2)) ∧ Aside0 (kq ≤ k) ∧ Drawn0 w w')
    case atStart => exact ⟨(0), (0), (by first | rfl | (simp; done) | (simp [*]; done)), (by first | rfl | (simp; done) | (simp [*]; done)), H', ⟨Nat.le_refl _⟩, by repeat (first | exact Drawn0.refl _ | apply Drawn0.step)⟩
    case round =>
      clear H'
      try clear c2
      try clear c2b0
      try clear c2b1
      try clear p2
      obtain ⟨x4_1, x13_1, rfl, rfl, HA, HK1, ⟨m1, rfl⟩⟩ := hrel
      cases gk with
      | zero => exact absurd HA.out (by simp [tlv_Of.l0])
      | succ k1 =>
        have H := HA.out
        clear HA
        simp only [tlv_Of.l0] at H
        by_cases c3 : x13_1 < (l0.length : Int)
        · rw [if_pos c3] at H
          have c3b0 : decide (x13_1 < (l0.length : Int)) = true := decide_eq_true c3
          clear c3
          by_cases c4 : 0 ≤ x13_1
          · rw [if_pos c4] at H
            have c4b0 : decide (0 ≤ x13_1) = true := decide_eq_true c4
            clear c4
            by_cases c5 : x13_1 < (l0.length : Int)
            · rw [if_pos c5] at H
              have c5b0 : decide (x13_1 < (l0.length : Int)) = true := decide_eq_true c5
              clear c5
              have H' := Aside0.mk H
              clear H
              have p139 : 0 ≤ (x13_1 : Int) := of_decide_eq_true (by first | (with_reducible assumption) | assumption)
              have q139 : x13_1 < (l0.length : Int) := of_decide_eq_true (by first | (with_reducible assumption) | assumption)
              obtain ⟨ad139, e139, hx139_0⟩ := Kd.at_int HR0.out x13_1 p139 q139
              cases e139
              replace p139 := eq_true p139
              replace q139 := eq_true q139
              go_wp2
              go_roundg k1
              case measure => have := HK1.out; omega
              case rel => exact ⟨(Go.bits .or .u64 (IntKind.u64.wrap (x4_1 * 256)) (IntKind.u64.wrap (rd l0 x13_1))), (wrap64 (x13_1 + 1)), (by first | rfl | (simp; done) | (simp [*]; done)), (by first | rfl | (simp; done) | (simp [*]; done)), H', ⟨by have := HK1.out; omega⟩, by repeat (first | exact Drawn0.refl _ | apply Drawn0.step)⟩
            · rw [if_neg c5] at H
              exact absurd H (by simp)
          · rw [if_neg c4] at H
            exact absurd H (by simp)
        · rw [if_neg c3] at H
          have c3b0 : decide (x13_1 < (l0.length : Int)) = false := decide_eq_false c3
          clear c3
          by_cases c6 : x4_1 > 9223372036854775807
          · rw [if_pos c6] at H
            have c6b0 : decide (9223372036854775807 < x4_1) = true := decide_eq_true c6
            clear c6
            simp only [Option.some.injEq, Prod.mk.injEq] at H
            obtain ⟨rfl, rfl⟩ := H
            go_wp2
            go_ret2
            exact ⟨by first | rfl | (simp; done) | (simp [*]; done), by repeat (first | exact Drawn0.refl _ | apply Drawn0.step)⟩
          · rw [if_neg c6] at H
            have c6b0 : decide (9223372036854775807 < x4_1) = false := decide_eq_false c6
            clear c6
            simp only [Option.some.injEq, Prod.mk.injEq] at H
            obtain ⟨rfl, rfl⟩ := H
            go_wp2
            go_ret2
            exact ⟨by first | rfl | (simp; done) | (simp [*]; done), by repeat (first | exact Drawn0.refl _ | apply Drawn0.step)⟩
  · rw [if_neg c2] at H
    have c2b0 : ((l0.length : Int) == 8) = false := beq_eq_false_iff_ne.mpr c2
    have c2b1 : ((l0.length : Int) != 8) = true := bne_iff_ne.mpr c2
    simp only [Option.some.injEq, Prod.mk.injEq] at H
    obtain ⟨rfl, rfl⟩ := H
    go_enter Try.func23, Try.ntmps23
    go_wp2
    go_ret2
    exact ⟨by first | rfl | (simp; done) | (simp [*]; done), by repeat (first | exact Drawn0.refl _ | apply Drawn0.step)⟩

/-! ### tlv_Number: function 25 -/
def tlv_Number.l0 : Nat → Int → List Int → Int → Int → Option (List Int)
  | 0, _, _, _, _ => none
  | k + 1, x0, x3, x7, x8 => if x8 < x7 then (if 0 ≤ (wrap64 (8 * (wrap64 (7 - x8)))) then (if 0 ≤ x8 then (if x8 < (x3.length : Int) then (tlv_Number.l0 k x0 (x3.set (x8 : Int).toNat ((shr .u64 (IntKind.u64.wrap (x0)) (wrap64 (8 * (wrap64 (7 - x8))))) % 256)) x7 (wrap64 (x8 + 1))) else (none)) else (none)) else (none)) else (some x3)
def tlv_Number.f (k : Nat) (a0 : Int) : Option (List Int) := if 8 ≤ 281474976710656 then ((some (List.replicate 8 0 : List Int)).bind fun y140 => (tlv_Number.l0 k a0 y140 (y140.length : Int) 0)) else (none)
theorem tlv_Number.mono_l : ∀ k, (∀ y0 y1 y2 y3, LeO (tlv_Number.l0 k y0 y1 y2 y3) (tlv_Number.l0 (k + 1) y0 y1 y2 y3))
  | 0 => fun _ _ _ _ r h => by simp [tlv_Number.l0] at h
  | k + 1 => by
    have ih0 := tlv_Number.mono_l k
    · intro y0 y1 y2 y3
      unfold tlv_Number.l0
      repeat' first
      | (with_reducible exact ih0 _ _ _ _)
      | (with_reducible exact LeO.refl _)
      | (with_reducible exact LeO.none _)
      | (with_reducible refine LeO.ite ?_ ?_)
      | (with_reducible refine LeO.bind ?_ (fun _ => ?_))
      | exact ih0 _ _ _ _
      | exact LeO.none _
      | refine LeO.ite ?_ ?_
      | refine LeO.bind ?_ (fun _ => ?_)
theorem tlv_Number.mono : ∀ a0 k, LeO (tlv_Number.f k a0) (tlv_Number.f (k + 1) a0) := by
  intro a0 k
  have ih0 := tlv_Number.mono_l k
  unfold tlv_Number.f
  repeat' first
      | (with_reducible exact ih0 _ _ _ _)
      | (with_reducible exact LeO.refl _)
      | (with_reducible exact LeO.none _)
      | (with_reducible refine LeO.ite ?_ ?_)
      | (with_reducible refine LeO.bind ?_ (fun _ => ?_))
      | exact ih0 _ _ _ _
      | exact LeO.none _
      | refine LeO.ite ?_ ?_
      | refine LeO.bind ?_ (fun _ => ?_)
set_option maxHeartbeats 8000000 in
set_option maxRecDepth 100000 in
theorem tlv_Number.calls (k : Nat) (a0 : Int) (r : List Int) (w : World) (h : tlv_Number.f k a0 = some r) :
    Calls Try.prog 25 #[.int .i64 a0] w fun e w' => ∃ v0_ : Value, e = .returned (v0_) ∧ Kd.R (Kd.int .u8) 5 w' w.heap.size (fun _ => True) v0_ r ∧ Below w.heap.size w w' := by
  have HB := Aside0.mk (Below.refl w.heap.size w)
  have H : (if 8 ≤ 281474976710656 then ((some (List.replicate 8 0 : List Int)).bind fun y140 => (tlv_Number.l0 k a0 y140 (y140.length : Int) 0)) else (none)) = some r := h
  clear h
  by_cases c2 : 8 ≤ 281474976710656
  · rw [if_pos c2] at H
    have c2b0 := eq_true c2
    have c2b1 : decide (8 ≤ 281474976710656) = true := decide_eq_true c2
    clear c2
    obtain ⟨y140, hy140⟩ : ∃ y_ : List Int, y_ = (List.replicate 8 0) := ⟨_, rfl⟩
    replace H : (tlv_Number.l0 k a0 y140 (y140.length : Int) 0) = some r := by first | (rw [hy140]; with_reducible exact H) | (have H2_ := (Option.bind_some _ _).symm.trans H; rw [hy140]; with_reducible exact H2_) | (have H2_ := (Option.bind_some _ _).symm.trans H; with_reducible exact H2_) | with_reducible exact H | (rw [hy140]; exact H) | exact H
    have Ny140 := Aside0.mk hy140
    clear hy140
    have H' := Aside0.mk H
    clear H
    go_enter Try.func25, Try.ntmps25
    go_wp2_with (first | ((with_reducible refine gate_dst (N := 5) rfl ?_); refine Kd.R_make (Kd.int .u8) _ 5 rfl (N := 5) rfl 33 _ _ rfl 8 rfl rfl Try.underlying33 (.int .u8 0) 1 info5 rfl (by decide) (by omega) 0 (ok := fun _ => True) (okp := fun _ => True) rfl (fun _ hk => hk) trivial (by omega) (by omega) (Below.refl _ _) (Nat.le_refl _) ?_; intro v141 w3 ho4 hb hg_ hnew_; clear hg_ hnew_; (first | rw [← Ny140.out] at ho4 | (simp only [Int.reduceToNat] at ho4; rw [← Ny140.out] at ho4)); have n0_ := Aside0.mk (Kd.R_lower ho4 (below_size (by repeat (first | (with_reducible first | exact HB.out | apply below_alloc | apply pw_below_drewN | apply below_drew1) | exact HB.out)))); have n1_ := Aside0.mk (below_step (by repeat (first | (with_reducible first | exact HB.out | apply below_alloc | apply pw_below_drewN | apply below_drew1) | exact HB.out)) hb); clear HB; have HO142 := n0_; have HB := n1_; clear n0_ n1_; clear hb ho4; obtain ⟨Ao5, co5, eo5⟩ := Kd.R_slice HO142.out; subst eo5))
    go_loopg [8] k (fun kq v8 w' => ∃ (x3_1 : List Int) (x8_1 : Int), v8 = .int .i64 x8_1 ∧ Aside0 (tlv_Number.l0 kq a0 x3_1 (y140.length : Int) x8_1 = some r) ∧ Aside0 (kq ≤ k) ∧ Aside0 (Kd.R (Kd.int .u8) 5 w' w.heap.size (fun _ => True) (.slice Ao5 y140.length co5) x3_1) ∧ Aside0 (Below w.heap.size w w'))
    case atStart => exact ⟨(y140), (0), (by first | rfl | (simp; done) | (simp [*]; done)), H', ⟨Nat.le_refl _⟩, ⟨by (with_reducible repeat (first | apply Kd.R_alloc | apply Kd.R_drewN | apply Kd.R_drew)); exact HO142.out⟩, ⟨by repeat (first | (with_reducible first | exact HB.out | apply below_alloc | apply pw_below_drewN | apply below_drew1) | exact HB.out)⟩⟩
    case round =>
      clear H'
      try clear c2
      try clear c2b0
      try clear c2b1
      try clear p2
      obtain ⟨x3_1, x8_1, rfl, HA, HK1, HO_3, HB⟩ := hrel
      have hl3_1 := (Kd.R_reads' HO_3.out).1
      rw [hl3_1] at HO_3
      (try simp only [hl3_1])
      cases gk with
      | zero => exact absurd HA.out (by simp [tlv_Number.l0])
      | succ k1 =>
        have H := HA.out
        clear HA
        simp only [tlv_Number.l0] at H
        by_cases c6 : x8_1 < (y140.length : Int)
        · rw [if_pos c6] at H
          have c6b0 : decide (x8_1 < (y140.length : Int)) = true := decide_eq_true c6
          (try (have c6b0h := c6b0; simp only [hl3_1] at c6b0h))
          clear c6
          obtain ⟨ji7, hji7⟩ : ∃ j_ : Int, (wrap64 (8 * (wrap64 (7 - x8_1)))) = j_ := ⟨_, rfl⟩
          replace H : (if 0 ≤ (ji7) then (if 0 ≤ x8_1 then (if x8_1 < (x3_1.length : Int) then (tlv_Number.l0 k1 a0 (x3_1.set (x8_1 : Int).toNat ((shr .u64 (IntKind.u64.wrap (a0)) (ji7)) % 256)) (y140.length : Int) (wrap64 (x8_1 + 1))) else (none)) else (none)) else (none)) = some r := by first | (rw [hji7] at H; exact H) | (simp only [hji7] at H ⊢; exact H)
          have hji7w : (IntKind.i64.wrap (8 * (wrap64 (7 - x8_1)))) = ji7 := (i64_w _).trans hji7
          by_cases c8 : 0 ≤ (ji7)
          · rw [if_pos c8] at H
            have c8b0 := eq_true c8
            have c8b1 : decide (0 ≤ (ji7)) = true := decide_eq_true c8
            clear c8
            obtain ⟨ji9, hji9⟩ : ∃ j_ : Int, (shr .u64 (IntKind.u64.wrap (a0)) (ji7)) = j_ := ⟨_, rfl⟩
            replace H : (if 0 ≤ x8_1 then (if x8_1 < (x3_1.length : Int) then (tlv_Number.l0 k1 a0 (x3_1.set (x8_1 : Int).toNat ((ji9) % 256)) (y140.length : Int) (wrap64 (x8_1 + 1))) else (none)) else (none)) = some r := by first | (rw [hji9] at H; exact H) | (simp only [hji9] at H ⊢; exact H)
            have hji9_ : ((IntKind.u64.wrap (a0)) / 2 ^ min (ji7).toNat 64) = ji9 := hji9
            have hji9z : (ji7) ≤ 64 → ((IntKind.u64.wrap (a0)) / 2 ^ (ji7).toNat) = ji9 := shr_small hji9
            by_cases c10 : 0 ≤ x8_1
            · rw [if_pos c10] at H
              have c10b0 : decide (0 ≤ x8_1) = true := decide_eq_true c10
              (try (have c10b0h := c10b0; simp only [hl3_1] at c10b0h))
              clear c10
              by_cases c11 : x8_1 < (x3_1.length : Int)
              · rw [if_pos c11] at H
                have c11b0 : decide (x8_1 < (x3_1.length : Int)) = true := decide_eq_true c11
                (try (have c11b0h := c11b0; simp only [hl3_1] at c11b0h))
                clear c11
                obtain ⟨y143, hy143⟩ : ∃ y_ : List Int, y_ = (x3_1.set (x8_1 : Int).toNat ((ji9) % 256)) := ⟨_, rfl⟩
                replace H : (tlv_Number.l0 k1 a0 y143 (y140.length : Int) (wrap64 (x8_1 + 1))) = some r := by first | (rw [hy143]; with_reducible exact H) | (have H2_ := (Option.bind_some _ _).symm.trans H; rw [hy143]; with_reducible exact H2_) | (have H2_ := (Option.bind_some _ _).symm.trans H; with_reducible exact H2_) | with_reducible exact H | (rw [hy143]; exact H) | exact H
                have Ny143 := Aside0.mk hy143
                clear hy143
                have H' := Aside0.mk H
                clear H
                have p12 : 0 ≤ (x8_1 : Int) := of_decide_eq_true (by first | (with_reducible assumption) | assumption)
                have q12 : (x8_1 : Int) < ((x3_1.length : Int) : Int) := of_decide_eq_true (by first | (with_reducible assumption) | assumption)
                obtain ⟨go12, co12, eo12, gb12, gl12, cl12, HG12⟩ := Kd.R_form HO_3.out (by omega)
                (first | cases eo12 | (injection eo12 with ea_ en_ ec_; (first | subst ea_ | (injection ea_ with ea_; subst ea_)); subst ec_; clear en_))
                have GB12 := Aside0.mk gb12
                have GG12 := Aside0.mk HG12
                clear gb12 gl12 HG12
                obtain ⟨hx12_0, hf12_0⟩ := Kd.R_celln 0 HO_3.out (x8_1 : Int) p12 q12
                replace p12 := eq_true p12
                replace q12 := eq_true q12
                have HP13 := Kd.R_putg HO_3.out (x8_1 : Int) ((ji9) % 256)
                go_wp2_with (first | ((with_reducible refine gate_store (t := 5) (p := 20) rfl ?_); refine store_event (t := 5) (p := 20) (v := ?vo_w14) (w1 := (wr.setCell ⟨go12, (x8_1 : Int).toNat, none⟩ (.int .u8 ((ji9) % 256)))) ?hg ?ho ?hn ?hr ?_; (case ho => rfl); (case hg => rfl); (case hn => rfl); (case hr => first | (go_simp; done) | (go_simp; with_reducible rfl) | (go_simp; simp only [IntKind.wrap_u8, Int.emod_emod]; done) | (go_simp; simp only [IntKind.wrap_u8, Int.emod_emod]; rfl) | (go_simp; rfl)); intro w14 hw; have hg : wr.grownBy w14 (some go12) := (by rw [hw]; exact HP13.2); have hp_ : Kd.R (Kd.int .u8) 5 w14 w.heap.size (fun _ => True) (.slice (some ⟨go12, 0, none⟩) x3_1.length co5) y143 := (by rw [hw, Ny143.out]; exact HP13.1); clear HP13; have n0_ := Aside0.mk (hp_); have n1_ := Aside0.mk ((by rw [hw]; exact below_set (HB.out) GB12.out : Below w.heap.size w w14)); clear HO_3; clear HB; have HO_3 := n0_; have HB := n1_; clear n0_ n1_; clear hg hw hp_))
                (try simp only [← hl3_1])
                go_roundg k1
                case measure => have := HK1.out; omega
                case rel => exact ⟨(y143), (wrap64 (x8_1 + 1)), (by first | rfl | (simp; done) | (simp [*]; done)), H', ⟨by have := HK1.out; omega⟩, ⟨by (try simp only [hl3_1]); (with_reducible repeat (first | apply Kd.R_alloc | apply Kd.R_drewN | apply Kd.R_drew)); exact HO_3.out⟩, ⟨by repeat (first | (with_reducible first | exact HB.out | apply below_alloc | apply pw_below_drewN | apply below_drew1) | exact HB.out)⟩⟩
              · rw [if_neg c11] at H
                exact absurd H (by simp)
            · rw [if_neg c10] at H
              exact absurd H (by simp)
          · rw [if_neg c8] at H
            exact absurd H (by simp)
        · rw [if_neg c6] at H
          have c6b0 : decide (x8_1 < (y140.length : Int)) = false := decide_eq_false c6
          (try (have c6b0h := c6b0; simp only [hl3_1] at c6b0h))
          clear c6
          obtain rfl := Option.some.inj H
          go_wp2
          go_ret
          exact ⟨_, by first | rfl | (simp [errW_none, errW_some] <;> rfl) | (simp [*, errW_none, errW_some] <;> rfl), by (with_reducible repeat (first | apply Kd.R_alloc | apply Kd.R_drewN | apply Kd.R_drew)); exact HO_3.out, by repeat (first | (with_reducible first | exact HB.out | apply below_alloc | apply pw_below_drewN | apply below_drew1) | exact HB.out)⟩
  · rw [if_neg c2] at H
    exact absurd H (by simp)

end Go.Proofs.Ytikdfamhgopcdaa.PTlvBack
