/- What the proof of RevokeTells is made of, part 10. -/
import Derived.Test.YtkaeoeebagndaaaZRevokeTells4
import Derived.Test.YtkaeoeebagndaaaZRevokeTells9
import Derived.Test.YtkaeoeebagndaaaZRevokeTellsh
namespace Go.Proofs.Ytkaeoeebagndaaa.PRevokeTells
open Go.RowKit Go.Proofs.YtkaeoeebagndaaaW.PrintWords Go.Proofs.YtkaeoeebagndaaaW.PrintLast Go.Proofs.YtkaeoeebagndaaaW.PrintMore
attribute [local go_sem] max2_int min2_int max_two min_two max_three min_three max_four min_four   -- for this text's walks alone
set_option linter.unusedVariables false
set_option linter.unusedSimpArgs false
attribute [local go_sem high] u8_w cast_tmod eql_code neq_code eql_code_nil neq_code_nil eql_nil_code neq_nil_code
def clapperref08_Get.l0 : Nat → List Int → List (S48) → Int → Option ((List (S48)) × Bool)
 | 0, _, _, _ => none
 | k + 1, x0, x4, x5 => if x5 < (x0.length : Int) then (if (wrap64 (x5 + 3)) > (x0.length : Int) then (some (([] : List (S48)), false)) else (if 0 ≤ (wrap64 (x5 + 1)) then (if (wrap64 (x5 + 1)) < (x0.length : Int) then (if 0 ≤ (wrap64 (x5 + 2)) then (if (wrap64 (x5 + 2)) < (x0.length : Int) then (if (wrap64 ((wrap64 (x5 + 3)) + (wrap64 ((wrap64 (256 * (wrap64 (rd x0 (wrap64 (x5 + 1)))))) + (wrap64 (rd x0 (wrap64 (x5 + 2)))))))) > (x0.length : Int) then (some (([] : List (S48)), false)) else (if 0 ≤ x5 then ((some (([] : List Int) : List Int)).bind fun y203 => (if 0 ≤ (wrap64 (x5 + 3)) then (if (wrap64 (x5 + 3)) ≤ (wrap64 ((wrap64 (x5 + 3)) + (wrap64 ((wrap64 (256 * (wrap64 (rd x0 (wrap64 (x5 + 1)))))) + (wrap64 (rd x0 (wrap64 (x5 + 2)))))))) then (if (wrap64 ((wrap64 (x5 + 3)) + (wrap64 ((wrap64 (256 * (wrap64 (rd x0 (wrap64 (x5 + 1)))))) + (wrap64 (rd x0 (wrap64 (x5 + 2)))))))) ≤ (x0.length : Int) then (if y203.length + ((x0.take ((wrap64 ((wrap64 (x5 + 3)) + (wrap64 ((wrap64 (256 * (wrap64 (rd x0 (wrap64 (x5 + 1)))))) + (wrap64 (rd x0 (wrap64 (x5 + 2)))))))) : Int).toNat).drop ((wrap64 (x5 + 3)) : Int).toNat).length < 140737488355328 then (if x4.length < 4398046511104 then (clapperref08_Get.l0 k x0 (x4 ++ [(⟨wrap64 (rd x0 x5), (y203 ++ ((x0.take ((wrap64 ((wrap64 (x5 + 3)) + (wrap64 ((wrap64 (256 * (wrap64 (rd x0 (wrap64 (x5 + 1)))))) + (wrap64 (rd x0 (wrap64 (x5 + 2)))))))) : Int).toNat).drop ((wrap64 (x5 + 3)) : Int).toNat))⟩ : S48)]) (wrap64 ((wrap64 (x5 + 3)) + (wrap64 ((wrap64 (256 * (wrap64 (rd x0 (wrap64 (x5 + 1)))))) + (wrap64 (rd x0 (wrap64 (x5 + 2))))))))) else (none)) else (none)) else (none)) else (none)) else (none))) else (none))) else (none)) else (none)) else (none)) else (none))) else ((clapperref08_May.f k x4).bind fun t199 => (if t199 = true then (some (x4, true)) else (some (([] : List (S48)), false))))
def clapperref08_Get.f (k : Nat) (l0 : List Int) : Option ((List (S48)) × Bool) := clapperref08_Get.l0 k l0 ([] : List (S48)) 0
theorem clapperref08_Get.mono_l : ∀ k, (∀ y0 y1 y2, LeO (clapperref08_Get.l0 k y0 y1 y2) (clapperref08_Get.l0 (k + 1) y0 y1 y2))
 | 0 => fun _ _ _ r h => by simp [clapperref08_Get.l0] at h
 | k + 1 => by
  have ih0 := clapperref08_Get.mono_l k
  ·intro y0 y1 y2
   unfold clapperref08_Get.l0
   repeat' first
   | (with_reducible exact ih0 _ _ _)
   | (with_reducible exact clapperref08_May.mono _ _)
   | (with_reducible exact LeO.refl _)
   | (with_reducible exact LeO.none _)
   | (with_reducible refine LeO.ite ?_ ?_)
   | (with_reducible refine LeO.bind ?_ (fun _ => ?_))
   | exact ih0 _ _ _
   | exact clapperref08_May.mono _ _
   | exact LeO.none _
   | refine LeO.ite ?_ ?_
   | refine LeO.bind ?_ (fun _ => ?_)
theorem clapperref08_Get.mono : ∀ a0 k, LeO (clapperref08_Get.f k a0) (clapperref08_Get.f (k + 1) a0) := by
 intro a0 k
 have ih0 := clapperref08_Get.mono_l k
 unfold clapperref08_Get.f
 repeat' first
   | (with_reducible exact ih0 _ _ _)
   | (with_reducible exact clapperref08_May.mono _ _)
   | (with_reducible exact LeO.refl _)
   | (with_reducible exact LeO.none _)
   | (with_reducible refine LeO.ite ?_ ?_)
   | (with_reducible refine LeO.bind ?_ (fun _ => ?_))
   | exact ih0 _ _ _
   | exact clapperref08_May.mono _ _
   | exact LeO.none _
   | refine LeO.ite ?_ ?_
   | refine LeO.bind ?_ (fun _ => ?_)
def clapperref08_Get.T6 : Bool × List (List Nat × List Nat) := (true, [([], []), ([], []), ([1], [1]), ([0, 2], [0, 2]), ([3], [3]), ([4], [4]), ([5], [5]), ([], []), ([], []), ([8], [8]), ([7, 9], [7, 9]), ([10], [10]), ([11], [11]), ([6, 12], [6, 12]), ([13, 0, 1, 2, 3, 4, 5, 6, 7, 8, 9, 10, 11, 12, 13], [13])])
def clapperref08_Get.B6 : List Nat := [0, 0, 2, 7, 15, 31, 63, 0, 0, 256, 896, 1920, 3968, 8191, 16383]
theorem clapperref08_Get.tab6 : rtab .any (opsOf Try.f28 6) = clapperref08_Get.T6 := by kernel_rfl
theorem clapperref08_Get.bits6 : waitsOk clapperref08_Get.T6.2 clapperref08_Get.B6 = true := by kernel_rfl
def clapperref08_Get.T9 : Bool × List (List Nat × List Nat) := (true, [([], []), ([], []), ([], []), ([1, 2], [1, 2]), ([3], [3]), ([4], [4]), ([], []), ([], []), ([], []), ([8], [8]), ([], []), ([10], [10]), ([], []), ([11, 12], [11, 12]), ([7, 9, 13], [7, 9, 13]), ([6, 14], [6, 14]), ([5, 15], [5, 15]), ([16], [16]), ([0, 17, 15], [0, 17]), ([18, 18, 0, 1, 2, 3, 4, 5, 6, 7, 8, 9, 10, 11, 12, 13, 14, 15, 16, 17, 18], [0, 18])])
def clapperref08_Get.B9 : List Nat := [0, 0, 0, 6, 14, 30, 0, 0, 0, 256, 0, 1024, 0, 7168, 16256, 32704, 65534, 131070, 262143, 524287]
theorem clapperref08_Get.tab9 : rtab .any (opsOf Try.f28 9) = clapperref08_Get.T9 := by kernel_rfl
theorem clapperref08_Get.bits9 : waitsOk clapperref08_Get.T9.2 clapperref08_Get.B9 = true := by kernel_rfl
set_option maxHeartbeats 8000000 in
set_option maxRecDepth 100000 in
theorem clapperref08_Get.calls (k : Nat) (A0 : Option Addr) (c0 : Nat) (l0 : List Int) (r1 : List (S48)) (r2 : Bool) (w : World) (hr0 : Kd.C (Kd.int .u8) w A0 l0.length l0) (hc0 : l0.length ≤ c0) (h : clapperref08_Get.f k l0 = some (r1, r2)) :
  Calls Try.prog 28 #[.slice A0 l0.length c0] w fun e w' => ∃ v0_ : Value, e = .returned (.tuple #[v0_, .bool r2]) ∧ Kd.S k48 48 w' w.heap.size (fun _ => True) v0_ r1 ∧ Below w.heap.size w w' := by
 have hu48 := Try.underlying48
 have HR0 := Aside0.mk hr0
 have HC0 := Aside0.mk hc0
 clear hr0 hc0
 have HB := Aside0.mk (Below.refl w.heap.size w)
 have H : (clapperref08_Get.l0 k l0 ([] : List (S48)) 0) = some (r1, r2) := h
 clear h
 have H' := Aside0.mk H
 clear H
 go_enter Try.func28, Try.ntmps28
 go_wp2
 go_loopg [4, 5] k (fun kq v4 v5 w' => ∃ (x4_1 : List (S48)) (x5_1 : Int), v5 = .int .i64 x5_1 ∧ Aside0 (clapperref08_Get.l0 kq l0 x4_1 x5_1 = some (r1, r2)) ∧ Aside0 (kq ≤ k) ∧ Aside0 (Kd.S k48 48 w' w.heap.size (fun _ => True) v4 x4_1) ∧ Aside0 (Below w.heap.size w w'))
 case atStart => exact ⟨(([] : List (S48))), (0), (by first | rfl | (simp; done) | (simp [*]; done)), H', ⟨Nat.le_refl _⟩, ⟨by first | exact Kd.S_nil _ _ _ _ _ | exact Kd.N_nil _ _ _ _ _ | exact Kd.V_nil _ _ _ _ _ | exact Kd.Q_nil _ _ _ _ _ | exact Kd.R_nil _ _ _ _ _⟩, ⟨by repeat (first | (with_reducible first | exact HB.out | apply below_alloc | apply pw_below_drewN | apply below_drew1) | exact HB.out)⟩⟩
 case round =>
  clear H'
  obtain ⟨x4_1, x5_1, rfl, HA, HK1, HO_4, HB⟩ := hrel
  cases gk with
  | zero => exact absurd HA.out (by simp [clapperref08_Get.l0])
  | succ k1 =>
   have H := HA.out
   clear HA
   simp only [clapperref08_Get.l0] at H
   by_cases c2 : x5_1 < (l0.length : Int)
   ·rw [if_pos c2] at H
    have c2b0 : decide (x5_1 < (l0.length : Int)) = true := decide_eq_true c2
    clear c2
    by_cases c3 : (wrap64 (x5_1 + 3)) > (l0.length : Int)
    ·rw [if_pos c3] at H
     have c3b0 : decide ((l0.length : Int) < (wrap64 (x5_1 + 3))) = true := decide_eq_true c3
     clear c3
     simp only [Option.some.injEq, Prod.mk.injEq] at H
     obtain ⟨rfl, rfl⟩ := H
     go_wp2
     go_ret2
     exact ⟨_, by first | rfl | (simp [errW_none, errW_some] <;> rfl) | (simp [*, errW_none, errW_some] <;> rfl), by first | exact Kd.S_nil _ _ _ _ _ | exact Kd.N_nil _ _ _ _ _ | exact Kd.V_nil _ _ _ _ _ | exact Kd.Q_nil _ _ _ _ _ | exact Kd.R_nil _ _ _ _ _, by repeat (first | (with_reducible first | exact HB.out | apply below_alloc | apply pw_below_drewN | apply below_drew1) | exact HB.out)⟩
    ·rw [if_neg c3] at H
     have c3b0 : decide ((l0.length : Int) < (wrap64 (x5_1 + 3))) = false := decide_eq_false c3
     clear c3
     obtain ⟨ji4, hji4⟩ : ∃ j_ : Int, (wrap64 (x5_1 + 1)) = j_ := ⟨_, rfl⟩
     replace H : (if 0 ≤ (ji4) then (if (ji4) < (l0.length : Int) then (if 0 ≤ (wrap64 (x5_1 + 2)) then (if (wrap64 (x5_1 + 2)) < (l0.length : Int) then (if (wrap64 ((wrap64 (x5_1 + 3)) + (wrap64 ((wrap64 (256 * (wrap64 (rd l0 (ji4))))) + (wrap64 (rd l0 (wrap64 (x5_1 + 2)))))))) > (l0.length : Int) then (some (([] : List (S48)), false)) else (if 0 ≤ x5_1 then ((some (([] : List Int) : List Int)).bind fun y203 => (if 0 ≤ (wrap64 (x5_1 + 3)) then (if (wrap64 (x5_1 + 3)) ≤ (wrap64 ((wrap64 (x5_1 + 3)) + (wrap64 ((wrap64 (256 * (wrap64 (rd l0 (ji4))))) + (wrap64 (rd l0 (wrap64 (x5_1 + 2)))))))) then (if (wrap64 ((wrap64 (x5_1 + 3)) + (wrap64 ((wrap64 (256 * (wrap64 (rd l0 (ji4))))) + (wrap64 (rd l0 (wrap64 (x5_1 + 2)))))))) ≤ (l0.length : Int) then (if y203.length + ((l0.take ((wrap64 ((wrap64 (x5_1 + 3)) + (wrap64 ((wrap64 (256 * (wrap64 (rd l0 (ji4))))) + (wrap64 (rd l0 (wrap64 (x5_1 + 2)))))))) : Int).toNat).drop ((wrap64 (x5_1 + 3)) : Int).toNat).length < 140737488355328 then (if x4_1.length < 4398046511104 then (clapperref08_Get.l0 k1 l0 (x4_1 ++ [(⟨wrap64 (rd l0 x5_1), (y203 ++ ((l0.take ((wrap64 ((wrap64 (x5_1 + 3)) + (wrap64 ((wrap64 (256 * (wrap64 (rd l0 (ji4))))) + (wrap64 (rd l0 (wrap64 (x5_1 + 2)))))))) : Int).toNat).drop ((wrap64 (x5_1 + 3)) : Int).toNat))⟩ : S48)]) (wrap64 ((wrap64 (x5_1 + 3)) + (wrap64 ((wrap64 (256 * (wrap64 (rd l0 (ji4))))) + (wrap64 (rd l0 (wrap64 (x5_1 + 2))))))))) else (none)) else (none)) else (none)) else (none)) else (none))) else (none))) else (none)) else (none)) else (none)) else (none)) = some (r1, r2) := by first | (rw [hji4] at H; exact H) | (simp only [hji4] at H ⊢; exact H)
     have hji4w : (IntKind.i64.wrap (x5_1 + 1)) = ji4 := (i64_w _).trans hji4
     by_cases c5 : 0 ≤ (ji4)
     ·rw [if_pos c5] at H
      have c5b0 : decide (0 ≤ (ji4)) = true := decide_eq_true c5
      clear c5
      by_cases c6 : (ji4) < (l0.length : Int)
      ·rw [if_pos c6] at H
       have c6b0 : decide ((ji4) < (l0.length : Int)) = true := decide_eq_true c6
       clear c6
       obtain ⟨ji7, hji7⟩ : ∃ j_ : Int, (wrap64 (x5_1 + 2)) = j_ := ⟨_, rfl⟩
       replace H : (if 0 ≤ (ji7) then (if (ji7) < (l0.length : Int) then (if (wrap64 ((wrap64 (x5_1 + 3)) + (wrap64 ((wrap64 (256 * (wrap64 (rd l0 (ji4))))) + (wrap64 (rd l0 (ji7))))))) > (l0.length : Int) then (some (([] : List (S48)), false)) else (if 0 ≤ x5_1 then ((some (([] : List Int) : List Int)).bind fun y203 => (if 0 ≤ (wrap64 (x5_1 + 3)) then (if (wrap64 (x5_1 + 3)) ≤ (wrap64 ((wrap64 (x5_1 + 3)) + (wrap64 ((wrap64 (256 * (wrap64 (rd l0 (ji4))))) + (wrap64 (rd l0 (ji7))))))) then (if (wrap64 ((wrap64 (x5_1 + 3)) + (wrap64 ((wrap64 (256 * (wrap64 (rd l0 (ji4))))) + (wrap64 (rd l0 (ji7))))))) ≤ (l0.length : Int) then (if y203.length + ((l0.take ((wrap64 ((wrap64 (x5_1 + 3)) + (wrap64 ((wrap64 (256 * (wrap64 (rd l0 (ji4))))) + (wrap64 (rd l0 (ji7))))))) : Int).toNat).drop ((wrap64 (x5_1 + 3)) : Int).toNat).length < 140737488355328 then (if x4_1.length < 4398046511104 then (clapperref08_Get.l0 k1 l0 (x4_1 ++ [(⟨wrap64 (rd l0 x5_1), (y203 ++ ((l0.take ((wrap64 ((wrap64 (x5_1 + 3)) + (wrap64 ((wrap64 (256 * (wrap64 (rd l0 (ji4))))) + (wrap64 (rd l0 (ji7))))))) : Int).toNat).drop ((wrap64 (x5_1 + 3)) : Int).toNat))⟩ : S48)]) (wrap64 ((wrap64 (x5_1 + 3)) + (wrap64 ((wrap64 (256 * (wrap64 (rd l0 (ji4))))) + (wrap64 (rd l0 (ji7)))))))) else (none)) else (none)) else (none)) else (none)) else (none))) else (none))) else (none)) else (none)) = some (r1, r2) := by first | (rw [hji7] at H; exact H) | (simp only [hji7] at H ⊢; exact H)
       have hji7w : (IntKind.i64.wrap (x5_1 + 2)) = ji7 := (i64_w _).trans hji7
       by_cases c8 : 0 ≤ (ji7)
       ·rw [if_pos c8] at H
        have c8b0 : decide (0 ≤ (ji7)) = true := decide_eq_true c8
        clear c8
        by_cases c9 : (ji7) < (l0.length : Int)
        ·rw [if_pos c9] at H
         have c9b0 : decide ((ji7) < (l0.length : Int)) = true := decide_eq_true c9
         clear c9
         by_cases c10 : (wrap64 ((wrap64 (x5_1 + 3)) + (wrap64 ((wrap64 (256 * (wrap64 (rd l0 (ji4))))) + (wrap64 (rd l0 (ji7))))))) > (l0.length : Int)
         ·rw [if_pos c10] at H
          have c10b0 : decide ((l0.length : Int) < (wrap64 ((wrap64 (x5_1 + 3)) + (wrap64 ((wrap64 (256 * (wrap64 (rd l0 (ji4))))) + (wrap64 (rd l0 (ji7)))))))) = true := decide_eq_true c10
          clear c10
          simp only [Option.some.injEq, Prod.mk.injEq] at H
          obtain ⟨rfl, rfl⟩ := H
          try go_wp2
          have n0_ := Aside0.mk (Kd.S_drew HO_4.out)
          have n1_ := Aside0.mk (below_drew1 HB.out)
          clear HO_4
          clear HB
          have HO_4 := n0_
          have HB := n1_
          clear n0_ n1_
          have p200 : 0 ≤ ((ji4) : Int) := of_decide_eq_true (by first | (with_reducible assumption) | assumption)
          have q200 : (ji4) < (l0.length : Int) := of_decide_eq_true (by first | (with_reducible assumption) | assumption)
          obtain ⟨ad200, e200, hx200_0⟩ := Kd.at_int HR0.out (ji4) p200 q200
          have hw200_0 := hx200_0
          cases e200
          replace hx200_0 := (HB.out.cell (World.block_lt_of_cell? w _ hx200_0)).trans hx200_0
          replace p200 := eq_true p200
          replace q200 := eq_true q200
          have p201 : 0 ≤ ((ji7) : Int) := of_decide_eq_true (by first | (with_reducible assumption) | assumption)
          have q201 : (ji7) < (l0.length : Int) := of_decide_eq_true (by first | (with_reducible assumption) | assumption)
          obtain ⟨ad201, e201, hx201_0⟩ := Kd.at_int HR0.out (ji7) p201 q201
          have hw201_0 := hx201_0
          obtain rfl : ad200 = ad201 := (by injection e201)
          replace hx201_0 := (HB.out.cell (World.block_lt_of_cell? w _ hx201_0)).trans hx201_0
          replace p201 := eq_true p201
          replace q201 := eq_true q201
          refine start_ (n := 15) (S := fun w' => w'.cell? (ad200.add ((ji4)).toNat) = some (.int .u8 (rd l0 (ji4))) ∧ w'.cell? (ad200.add ((ji7)).toNat) = some (.int .u8 (rd l0 (ji7)))) (ds := []) (bs 15 0) (by kernel_rfl) rfl rfl ⟨((HB.out.cell (World.block_lt_of_cell? w _ hw200_0)).trans hw200_0), ((HB.out.cell (World.block_lt_of_cell? w _ hw201_0)).trans hw201_0)⟩ (fun hHeld => ?_); refine with_tabW clapperref08_Get.tab6 clapperref08_Get.bits6 (fun HT_ HW_ => ?_)
          generalize wr.drew = w11 at HO_4 HB hx200_0 hx201_0 hHeld ⊢
          refine pure_ (i := 0) (N := some 17) (v := ?_) (a' := ?_) (bs 15 1) rfl rfl (any_of HT_.out (by kernel_rfl)) (fun _ _ _ h => h) (Or.inl ⟨by rfl, ?_⟩) ?_ ?_
          rotate_left
          ·intro w'
           go_simp
           with_reducible rfl
          rotate_left
          ·simp only [aS, i64_w, i32_w]
           rfl
          refine pure_ (i := 1) (N := some 18) (v := ?_) (a' := ?_) (bs 15 3) rfl rfl (any_of HT_.out (by kernel_rfl)) (fun _ _ _ h => h) (Or.inl ⟨by rfl, ?_⟩) ?_ ?_
          rotate_left
          ·intro w'
           go_simp
           with_reducible rfl
          rotate_left
          ·simp only [aS, i64_w, i32_w]
           rfl
          refine pure_ (i := 2) (N := some 19) (v := ?_) (a' := ?_) (bs 15 7) rfl rfl (any_of HT_.out (by kernel_rfl)) (fun _ _ _ h => h) (Or.inl ⟨by rfl, ?_⟩) ?_ ?_
          rotate_left
          ·intro w'
           go_simp
           with_reducible rfl
          rotate_left
          ·simp only [aS, i64_w, i32_w]
           rfl
          refine pure_ (i := 3) (N := some 20) (v := ?_) (a' := ?_) (bs 15 15) rfl rfl (any_of HT_.out (by kernel_rfl)) (fun _ _ _ h => h) (Or.inl ⟨by rfl, ?_⟩) ?_ ?_
          rotate_left
          ·intro w'
           go_simp
           with_reducible rfl
          rotate_left
          ·simp only [aS, i64_w, i32_w]
           rfl
          refine pure_ (i := 7) (N := some 24) (v := ?_) (a' := ?_) (bs 15 143) rfl rfl (any_of HT_.out (by kernel_rfl)) (fun _ _ _ h => h) (Or.inl ⟨by rfl, ?_⟩) ?_ ?_
          rotate_left
          ·intro w'
           go_simp
           with_reducible rfl
          rotate_left
          ·simp only [aS, i64_w, i32_w]
           rfl
          refine pure_ (i := 8) (N := some 25) (v := ?_) (a' := ?_) (bs 15 399) rfl rfl (any_of HT_.out (by kernel_rfl)) (fun _ _ _ h => h) (Or.inl ⟨by rfl, ?_⟩) ?_ ?_
          rotate_left
          ·intro w'
           go_simp
           with_reducible rfl
          rotate_left
          ·simp only [aS, i64_w, i32_w]
           rfl
          refine pure_ (i := 9) (N := some 26) (v := ?_) (a' := ?_) (bs 15 911) rfl rfl (any_of HT_.out (by kernel_rfl)) (fun _ _ _ h => h) (Or.inl ⟨by rfl, ?_⟩) ?_ ?_
          rotate_left
          ·intro w'
           go_simp
           with_reducible rfl
          rotate_left
          ·simp only [aS, i64_w, i32_w]
           rfl
          refine pure_ (i := 10) (N := some 27) (v := ?_) (a' := ?_) (bs 15 1935) rfl rfl (any_of HT_.out (by kernel_rfl)) (fun _ _ _ h => h) (Or.inl ⟨by rfl, ?_⟩) ?_ ?_
          rotate_left
          ·intro w'
           go_simp
           with_reducible rfl
          rotate_left
          ·simp only [aS, i64_w, i32_w]
           rfl
          refine take_ (i := 4) (N := some 21) (v := ?_) (a' := ?_) (bs 15 1951) rfl rfl (take_ofW HT_.out HW_.out (by kernel_rfl)) (fun _ _ _ h => h) (Or.inl ⟨by rfl, ?_⟩) hHeld ?_ ?_
          rotate_left
          ·rintro w' ⟨s0, s1⟩
           go_simp
           with_reducible rfl
          rotate_left
          ·simp only [aS, i64_w, i32_w]
           rfl
          refine pure_ (i := 5) (N := some 22) (v := ?_) (a' := ?_) (bs 15 1983) rfl rfl (any_of HT_.out (by kernel_rfl)) (fun _ _ _ h => h) (Or.inl ⟨by rfl, ?_⟩) ?_ ?_
          rotate_left
          ·intro w'
           go_simp
           with_reducible rfl
          rotate_left
          ·simp only [aS, i64_w, i32_w]
           rfl
          refine pure_ (i := 6) (N := some 23) (v := ?_) (a' := ?_) (bs 15 2047) rfl rfl (any_of HT_.out (by kernel_rfl)) (fun _ _ _ h => h) (Or.inl ⟨by rfl, ?_⟩) ?_ ?_
          rotate_left
          ·intro w'
           go_simp
           with_reducible rfl
          rotate_left
          ·simp only [aS, i64_w, i32_w]
           rfl
          refine take_ (i := 11) (N := some 28) (v := ?_) (a' := ?_) (bs 15 4095) rfl rfl (take_ofW HT_.out HW_.out (by kernel_rfl)) (fun _ _ _ h => h) (Or.inl ⟨by rfl, ?_⟩) hHeld ?_ ?_
          rotate_left
          ·rintro w' ⟨s0, s1⟩
           go_simp
           with_reducible rfl
          rotate_left
          ·simp only [aS, i64_w, i32_w]
           rfl
          refine pure_ (i := 12) (N := some 29) (v := ?_) (a' := ?_) (bs 15 8191) rfl rfl (any_of HT_.out (by kernel_rfl)) (fun _ _ _ h => h) (Or.inl ⟨by rfl, ?_⟩) ?_ ?_
          rotate_left
          ·intro w'
           go_simp
           with_reducible rfl
          rotate_left
          ·simp only [aS, i64_w, i32_w]
           rfl
          refine pure_ (i := 13) (N := some 30) (v := ?_) (a' := ?_) (bs 15 16383) rfl rfl (any_of HT_.out (by kernel_rfl)) (fun _ _ _ h => h) (Or.inl ⟨by rfl, ?_⟩) ?_ ?_
          rotate_left
          ·intro w'
           go_simp
           with_reducible rfl
          rotate_left
          ·simp only [aS, i64_w, i32_w]
           rfl
          refine pure_ (i := 14) (N := some 6) (v := ?_) (a' := ?_) (bs 15 32767) rfl rfl (any_of HT_.out (by kernel_rfl)) (fun _ _ _ h => h) (Or.inl ⟨by rfl, ?_⟩) ?_ ?_
          rotate_left
          ·intro w'
           go_simp
           with_reducible rfl
          rotate_left
          ·simp only [aS, i64_w, i32_w]
           rfl
          refine done_ (done_of HT_.out (by kernel_rfl)) ?_
          try go_wp2
          go_ret2
          exact ⟨_, by first | rfl | (simp [errW_none, errW_some] <;> rfl) | (simp only [← hji4, ← hji7]; first | rfl | (simp [errW_none, errW_some] <;> rfl)) | (simp [*, errW_none, errW_some] <;> rfl), by first | exact Kd.S_nil _ _ _ _ _ | exact Kd.N_nil _ _ _ _ _ | exact Kd.V_nil _ _ _ _ _ | exact Kd.Q_nil _ _ _ _ _ | exact Kd.R_nil _ _ _ _ _, by repeat (first | (with_reducible first | exact HB.out | apply below_alloc | apply pw_below_drewN | apply below_drew1) | exact HB.out)⟩
         ·rw [if_neg c10] at H
          have c10b0 : decide ((l0.length : Int) < (wrap64 ((wrap64 (x5_1 + 3)) + (wrap64 ((wrap64 (256 * (wrap64 (rd l0 (ji4))))) + (wrap64 (rd l0 (ji7)))))))) = false := decide_eq_false c10
          clear c10
          by_cases c12 : 0 ≤ x5_1
          ·rw [if_pos c12] at H
           have c12b0 : decide (0 ≤ x5_1) = true := decide_eq_true c12
           clear c12
           obtain ⟨y203, hy203⟩ : ∃ y_ : List Int, y_ = (([] : List Int)) := ⟨_, rfl⟩
           replace H : (if 0 ≤ (wrap64 (x5_1 + 3)) then (if (wrap64 (x5_1 + 3)) ≤ (wrap64 ((wrap64 (x5_1 + 3)) + (wrap64 ((wrap64 (256 * (wrap64 (rd l0 (ji4))))) + (wrap64 (rd l0 (ji7))))))) then (if (wrap64 ((wrap64 (x5_1 + 3)) + (wrap64 ((wrap64 (256 * (wrap64 (rd l0 (ji4))))) + (wrap64 (rd l0 (ji7))))))) ≤ (l0.length : Int) then (if y203.length + ((l0.take ((wrap64 ((wrap64 (x5_1 + 3)) + (wrap64 ((wrap64 (256 * (wrap64 (rd l0 (ji4))))) + (wrap64 (rd l0 (ji7))))))) : Int).toNat).drop ((wrap64 (x5_1 + 3)) : Int).toNat).length < 140737488355328 then (if x4_1.length < 4398046511104 then (clapperref08_Get.l0 k1 l0 (x4_1 ++ [(⟨wrap64 (rd l0 x5_1), (y203 ++ ((l0.take ((wrap64 ((wrap64 (x5_1 + 3)) + (wrap64 ((wrap64 (256 * (wrap64 (rd l0 (ji4))))) + (wrap64 (rd l0 (ji7))))))) : Int).toNat).drop ((wrap64 (x5_1 + 3)) : Int).toNat))⟩ : S48)]) (wrap64 ((wrap64 (x5_1 + 3)) + (wrap64 ((wrap64 (256 * (wrap64 (rd l0 (ji4))))) + (wrap64 (rd l0 (ji7)))))))) else (none)) else (none)) else (none)) else (none)) else (none)) = some (r1, r2) := by first | (rw [hy203]; with_reducible exact H) | (have H2_ := (Option.bind_some _ _).symm.trans H; rw [hy203]; with_reducible exact H2_) | (have H2_ := (Option.bind_some _ _).symm.trans H; with_reducible exact H2_) | with_reducible exact H | (rw [hy203]; exact H) | exact H
           have Ny203 := Aside0.mk hy203
           clear hy203
           obtain ⟨ji13, hji13⟩ : ∃ j_ : Int, (wrap64 (x5_1 + 3)) = j_ := ⟨_, rfl⟩
           replace H : (if 0 ≤ (ji13) then (if (ji13) ≤ (wrap64 ((ji13) + (wrap64 ((wrap64 (256 * (wrap64 (rd l0 (ji4))))) + (wrap64 (rd l0 (ji7))))))) then (if (wrap64 ((ji13) + (wrap64 ((wrap64 (256 * (wrap64 (rd l0 (ji4))))) + (wrap64 (rd l0 (ji7))))))) ≤ (l0.length : Int) then (if y203.length + ((l0.take ((wrap64 ((ji13) + (wrap64 ((wrap64 (256 * (wrap64 (rd l0 (ji4))))) + (wrap64 (rd l0 (ji7))))))) : Int).toNat).drop ((ji13) : Int).toNat).length < 140737488355328 then (if x4_1.length < 4398046511104 then (clapperref08_Get.l0 k1 l0 (x4_1 ++ [(⟨wrap64 (rd l0 x5_1), (y203 ++ ((l0.take ((wrap64 ((ji13) + (wrap64 ((wrap64 (256 * (wrap64 (rd l0 (ji4))))) + (wrap64 (rd l0 (ji7))))))) : Int).toNat).drop ((ji13) : Int).toNat))⟩ : S48)]) (wrap64 ((ji13) + (wrap64 ((wrap64 (256 * (wrap64 (rd l0 (ji4))))) + (wrap64 (rd l0 (ji7)))))))) else (none)) else (none)) else (none)) else (none)) else (none)) = some (r1, r2) := by first | (rw [hji13] at H; exact H) | (simp only [hji13] at H ⊢; exact H)
           (try rw [hji13] at c3b0)
           (try rw [hji13] at c10b0)
           have hji13w : (IntKind.i64.wrap (x5_1 + 3)) = ji13 := (i64_w _).trans hji13
           by_cases c14 : 0 ≤ (ji13)
           ·rw [if_pos c14] at H
            have c14b0 := eq_true c14
            have c14b1 : decide (0 ≤ (ji13)) = true := decide_eq_true c14
            clear c14
            by_cases c15 : (ji13) ≤ (wrap64 ((ji13) + (wrap64 ((wrap64 (256 * (wrap64 (rd l0 (ji4))))) + (wrap64 (rd l0 (ji7)))))))
            ·rw [if_pos c15] at H
             have c15b0 := eq_true c15
             have c15b1 : decide ((ji13) ≤ (wrap64 ((ji13) + (wrap64 ((wrap64 (256 * (wrap64 (rd l0 (ji4))))) + (wrap64 (rd l0 (ji7)))))))) = true := decide_eq_true c15
             by_cases c16 : (wrap64 ((ji13) + (wrap64 ((wrap64 (256 * (wrap64 (rd l0 (ji4))))) + (wrap64 (rd l0 (ji7))))))) ≤ (l0.length : Int)
             ·rw [if_pos c16] at H
              have c16b0 := eq_true c16
              have c16b1 : decide ((wrap64 ((ji13) + (wrap64 ((wrap64 (256 * (wrap64 (rd l0 (ji4))))) + (wrap64 (rd l0 (ji7))))))) ≤ (l0.length : Int)) = true := decide_eq_true c16
              by_cases c17 : y203.length + ((l0.take ((wrap64 ((ji13) + (wrap64 ((wrap64 (256 * (wrap64 (rd l0 (ji4))))) + (wrap64 (rd l0 (ji7))))))) : Int).toNat).drop ((ji13) : Int).toNat).length < 140737488355328
              ·rw [if_pos c17] at H
               have LMc17 := Aside0.mk c17
               clear c17
               obtain ⟨y207, hy207⟩ : ∃ y_ : List Int, y_ = (y203 ++ ((l0.take ((wrap64 ((ji13) + (wrap64 ((wrap64 (256 * (wrap64 (rd l0 (ji4))))) + (wrap64 (rd l0 (ji7))))))) : Int).toNat).drop ((ji13) : Int).toNat)) := ⟨_, rfl⟩
               replace H : (if x4_1.length < 4398046511104 then (clapperref08_Get.l0 k1 l0 (x4_1 ++ [(⟨wrap64 (rd l0 x5_1), y207⟩ : S48)]) (wrap64 ((ji13) + (wrap64 ((wrap64 (256 * (wrap64 (rd l0 (ji4))))) + (wrap64 (rd l0 (ji7)))))))) else (none)) = some (r1, r2) := by first | (rw [hy207]; with_reducible exact H) | (have H2_ := (Option.bind_some _ _).symm.trans H; rw [hy207]; with_reducible exact H2_) | (have H2_ := (Option.bind_some _ _).symm.trans H; with_reducible exact H2_) | with_reducible exact H | (rw [hy207]; exact H) | exact H
               have Ny207 := Aside0.mk hy207
               clear hy207
               by_cases c18 : x4_1.length < 4398046511104
               ·rw [if_pos c18] at H
                have LMc18 := Aside0.mk c18
                clear c18
                obtain ⟨y210, hy210⟩ : ∃ y_ : List (S48), y_ = (x4_1 ++ [(⟨wrap64 (rd l0 x5_1), y207⟩ : S48)]) := ⟨_, rfl⟩
                replace H : (clapperref08_Get.l0 k1 l0 y210 (wrap64 ((ji13) + (wrap64 ((wrap64 (256 * (wrap64 (rd l0 (ji4))))) + (wrap64 (rd l0 (ji7)))))))) = some (r1, r2) := by first | (rw [hy210]; with_reducible exact H) | (have H2_ := (Option.bind_some _ _).symm.trans H; rw [hy210]; with_reducible exact H2_) | (have H2_ := (Option.bind_some _ _).symm.trans H; with_reducible exact H2_) | with_reducible exact H | (rw [hy210]; exact H) | exact H
                have Ny210 := Aside0.mk hy210
                clear hy210
                have H' := Aside0.mk H
                clear H
                try go_wp2
                have n0_ := Aside0.mk (Kd.S_drew HO_4.out)
                have n1_ := Aside0.mk (below_drew1 HB.out)
                clear HO_4
                clear HB
                have HO_4 := n0_
                have HB := n1_
                clear n0_ n1_
                have p200 : 0 ≤ ((ji4) : Int) := of_decide_eq_true (by first | (with_reducible assumption) | assumption)
                have q200 : (ji4) < (l0.length : Int) := of_decide_eq_true (by first | (with_reducible assumption) | assumption)
                obtain ⟨ad200, e200, hx200_0⟩ := Kd.at_int HR0.out (ji4) p200 q200
                have hw200_0 := hx200_0
                cases e200
                replace hx200_0 := (HB.out.cell (World.block_lt_of_cell? w _ hx200_0)).trans hx200_0
                replace p200 := eq_true p200
                replace q200 := eq_true q200
                have p201 : 0 ≤ ((ji7) : Int) := of_decide_eq_true (by first | (with_reducible assumption) | assumption)
                have q201 : (ji7) < (l0.length : Int) := of_decide_eq_true (by first | (with_reducible assumption) | assumption)
                obtain ⟨ad201, e201, hx201_0⟩ := Kd.at_int HR0.out (ji7) p201 q201
                have hw201_0 := hx201_0
                obtain rfl : ad200 = ad201 := (by injection e201)
                replace hx201_0 := (HB.out.cell (World.block_lt_of_cell? w _ hx201_0)).trans hx201_0
                replace p201 := eq_true p201
                replace q201 := eq_true q201
                refine start_ (n := 15) (S := fun w' => w'.cell? (ad200.add ((ji4)).toNat) = some (.int .u8 (rd l0 (ji4))) ∧ w'.cell? (ad200.add ((ji7)).toNat) = some (.int .u8 (rd l0 (ji7)))) (ds := []) (bs 15 0) (by kernel_rfl) rfl rfl ⟨((HB.out.cell (World.block_lt_of_cell? w _ hw200_0)).trans hw200_0), ((HB.out.cell (World.block_lt_of_cell? w _ hw201_0)).trans hw201_0)⟩ (fun hHeld => ?_); refine with_tabW clapperref08_Get.tab6 clapperref08_Get.bits6 (fun HT_ HW_ => ?_)
                generalize wr.drew = w19 at HO_4 HB hx200_0 hx201_0 hHeld ⊢
                refine pure_ (i := 0) (N := some 17) (v := ?_) (a' := ?_) (bs 15 1) rfl rfl (any_of HT_.out (by kernel_rfl)) (fun _ _ _ h => h) (Or.inl ⟨by rfl, ?_⟩) ?_ ?_
                rotate_left
                ·intro w'
                 go_simp
                 with_reducible rfl
                rotate_left
                ·simp only [aS, i64_w, i32_w]
                 rfl
                refine pure_ (i := 1) (N := some 18) (v := ?_) (a' := ?_) (bs 15 3) rfl rfl (any_of HT_.out (by kernel_rfl)) (fun _ _ _ h => h) (Or.inl ⟨by rfl, ?_⟩) ?_ ?_
                rotate_left
                ·intro w'
                 go_simp
                 with_reducible rfl
                rotate_left
                ·simp only [aS, i64_w, i32_w]
                 rfl
                refine pure_ (i := 2) (N := some 19) (v := ?_) (a' := ?_) (bs 15 7) rfl rfl (any_of HT_.out (by kernel_rfl)) (fun _ _ _ h => h) (Or.inl ⟨by rfl, ?_⟩) ?_ ?_
                rotate_left
                ·intro w'
                 go_simp
                 with_reducible rfl
                rotate_left
                ·simp only [aS, i64_w, i32_w]
                 rfl
                refine pure_ (i := 3) (N := some 20) (v := ?_) (a' := ?_) (bs 15 15) rfl rfl (any_of HT_.out (by kernel_rfl)) (fun _ _ _ h => h) (Or.inl ⟨by rfl, ?_⟩) ?_ ?_
                rotate_left
                ·intro w'
                 go_simp
                 with_reducible rfl
                rotate_left
                ·simp only [aS, i64_w, i32_w]
                 rfl
                refine pure_ (i := 7) (N := some 24) (v := ?_) (a' := ?_) (bs 15 143) rfl rfl (any_of HT_.out (by kernel_rfl)) (fun _ _ _ h => h) (Or.inl ⟨by rfl, ?_⟩) ?_ ?_
                rotate_left
                ·intro w'
                 go_simp
                 with_reducible rfl
                rotate_left
                ·simp only [aS, i64_w, i32_w]
                 rfl
                refine pure_ (i := 8) (N := some 25) (v := ?_) (a' := ?_) (bs 15 399) rfl rfl (any_of HT_.out (by kernel_rfl)) (fun _ _ _ h => h) (Or.inl ⟨by rfl, ?_⟩) ?_ ?_
                rotate_left
                ·intro w'
                 go_simp
                 with_reducible rfl
                rotate_left
                ·simp only [aS, i64_w, i32_w]
                 rfl
                refine pure_ (i := 9) (N := some 26) (v := ?_) (a' := ?_) (bs 15 911) rfl rfl (any_of HT_.out (by kernel_rfl)) (fun _ _ _ h => h) (Or.inl ⟨by rfl, ?_⟩) ?_ ?_
                rotate_left
                ·intro w'
                 go_simp
                 with_reducible rfl
                rotate_left
                ·simp only [aS, i64_w, i32_w]
                 rfl
                refine pure_ (i := 10) (N := some 27) (v := ?_) (a' := ?_) (bs 15 1935) rfl rfl (any_of HT_.out (by kernel_rfl)) (fun _ _ _ h => h) (Or.inl ⟨by rfl, ?_⟩) ?_ ?_
                rotate_left
                ·intro w'
                 go_simp
                 with_reducible rfl
                rotate_left
                ·simp only [aS, i64_w, i32_w]
                 rfl
                refine take_ (i := 4) (N := some 21) (v := ?_) (a' := ?_) (bs 15 1951) rfl rfl (take_ofW HT_.out HW_.out (by kernel_rfl)) (fun _ _ _ h => h) (Or.inl ⟨by rfl, ?_⟩) hHeld ?_ ?_
                rotate_left
                ·rintro w' ⟨s0, s1⟩
                 go_simp
                 with_reducible rfl
                rotate_left
                ·simp only [aS, i64_w, i32_w]
                 rfl
                refine pure_ (i := 5) (N := some 22) (v := ?_) (a' := ?_) (bs 15 1983) rfl rfl (any_of HT_.out (by kernel_rfl)) (fun _ _ _ h => h) (Or.inl ⟨by rfl, ?_⟩) ?_ ?_
                rotate_left
                ·intro w'
                 go_simp
                 with_reducible rfl
                rotate_left
                ·simp only [aS, i64_w, i32_w]
                 rfl
                refine pure_ (i := 6) (N := some 23) (v := ?_) (a' := ?_) (bs 15 2047) rfl rfl (any_of HT_.out (by kernel_rfl)) (fun _ _ _ h => h) (Or.inl ⟨by rfl, ?_⟩) ?_ ?_
                rotate_left
                ·intro w'
                 go_simp
                 with_reducible rfl
                rotate_left
                ·simp only [aS, i64_w, i32_w]
                 rfl
                refine take_ (i := 11) (N := some 28) (v := ?_) (a' := ?_) (bs 15 4095) rfl rfl (take_ofW HT_.out HW_.out (by kernel_rfl)) (fun _ _ _ h => h) (Or.inl ⟨by rfl, ?_⟩) hHeld ?_ ?_
                rotate_left
                ·rintro w' ⟨s0, s1⟩
                 go_simp
                 with_reducible rfl
                rotate_left
                ·simp only [aS, i64_w, i32_w]
                 rfl
                refine pure_ (i := 12) (N := some 29) (v := ?_) (a' := ?_) (bs 15 8191) rfl rfl (any_of HT_.out (by kernel_rfl)) (fun _ _ _ h => h) (Or.inl ⟨by rfl, ?_⟩) ?_ ?_
                rotate_left
                ·intro w'
                 go_simp
                 with_reducible rfl
                rotate_left
                ·simp only [aS, i64_w, i32_w]
                 rfl
                refine pure_ (i := 13) (N := some 30) (v := ?_) (a' := ?_) (bs 15 16383) rfl rfl (any_of HT_.out (by kernel_rfl)) (fun _ _ _ h => h) (Or.inl ⟨by rfl, ?_⟩) ?_ ?_
                rotate_left
                ·intro w'
                 go_simp
                 with_reducible rfl
                rotate_left
                ·simp only [aS, i64_w, i32_w]
                 rfl
                refine pure_ (i := 14) (N := some 6) (v := ?_) (a' := ?_) (bs 15 32767) rfl rfl (any_of HT_.out (by kernel_rfl)) (fun _ _ _ h => h) (Or.inl ⟨by rfl, ?_⟩) ?_ ?_
                rotate_left
                ·intro w'
                 go_simp
                 with_reducible rfl
                rotate_left
                ·simp only [aS, i64_w, i32_w]
                 rfl
                refine done_ (done_of HT_.out (by kernel_rfl)) ?_
                try go_wp2
                have n0_ := Aside0.mk (Kd.S_drew HO_4.out)
                have n1_ := Aside0.mk (below_drew1 HB.out)
                clear HO_4
                clear HB
                have HO_4 := n0_
                have HB := n1_
                clear n0_ n1_
                have p202 : 0 ≤ (x5_1 : Int) := of_decide_eq_true (by first | (with_reducible assumption) | assumption)
                have q202 : x5_1 < (l0.length : Int) := of_decide_eq_true (by first | (with_reducible assumption) | assumption)
                obtain ⟨ad202, e202, hx202_0⟩ := Kd.at_int HR0.out x5_1 p202 q202
                have hw202_0 := hx202_0
                obtain rfl : ad200 = ad202 := (by injection e202)
                replace hx202_0 := (HB.out.cell (World.block_lt_of_cell? w _ hx202_0)).trans hx202_0
                replace p202 := eq_true p202
                replace q202 := eq_true q202
                obtain ⟨i021, hi021, _, hsz21, _⟩ := info_parts info5
                obtain ⟨A21, hcut21, hA21, hC21⟩ := print_mid_of (P := Try.prog) (Value.int .u8) 0 32 5 .i64 .i64 Try.underlying32 hi021 hsz21 (some ad200) c0 l0 (ji13) (wrap64 ((ji13) + (wrap64 ((wrap64 (256 * (wrap64 (rd l0 (ji4))))) + (wrap64 (rd l0 (ji7))))))) (of_decide_eq_true (by first | (with_reducible assumption) | assumption)) (by first | omega | exact of_decide_eq_true (by first | (with_reducible assumption) | assumption)) (of_decide_eq_true (by first | (with_reducible assumption) | assumption)) HC0.out
                have HR206 := Aside0.mk (Kd.C_of_reads (h1 := fun _ => rfl) (hA21 _ (Kd.reads_of_C HR0.out)))
                have HC206 := Aside0.mk hC21
                clear hA21 hC21 hi021 hsz21
                refine start_ (n := 20) (S := fun w' => w'.cell? (ad200.add (x5_1).toNat) = some (.int .u8 (rd l0 x5_1))) (ds := []) (bs 20 0) (by kernel_rfl) rfl rfl (((HB.out.cell (World.block_lt_of_cell? w _ hw202_0)).trans hw202_0)) (fun hHeld => ?_); refine with_tabW clapperref08_Get.tab9 clapperref08_Get.bits9 (fun HT_ HW_ => ?_)
                generalize w19.drew = w20 at HO_4 HB HR206 hx202_0 hHeld ⊢
                refine pure_ (i := 0) (N := some 38) (v := ?_) (a' := ?_) (bs 20 1) rfl rfl (any_of HT_.out (by kernel_rfl)) (fun _ _ _ h => h) (Or.inl ⟨by rfl, ?_⟩) ?_ ?_
                rotate_left
                ·intro w'
                 go_simp
                 with_reducible rfl
                rotate_left
                ·simp only [aS, i64_w, i32_w]
                 rfl
                refine pure_ (i := 1) (N := some 39) (v := ?_) (a' := ?_) (bs 20 3) rfl rfl (any_of HT_.out (by kernel_rfl)) (fun _ _ _ h => h) (Or.inl ⟨by rfl, ?_⟩) ?_ ?_
                rotate_left
                ·intro w'
                 go_simp
                 with_reducible rfl
                rotate_left
                ·simp only [aS, i64_w, i32_w]
                 rfl
                refine pure_ (i := 2) (N := some 40) (v := ?_) (a' := ?_) (bs 20 7) rfl rfl (any_of HT_.out (by kernel_rfl)) (fun _ _ _ h => h) (Or.inl ⟨by rfl, ?_⟩) ?_ ?_
                rotate_left
                ·intro w'
                 go_simp
                 with_reducible rfl
                rotate_left
                ·simp only [aS, i64_w, i32_w]
                 rfl
                refine pure_ (i := 3) (N := some 41) (v := ?_) (a' := ?_) (bs 20 15) rfl rfl (any_of HT_.out (by kernel_rfl)) (fun _ _ _ h => h) (Or.inl ⟨by rfl, ?_⟩) ?_ ?_
                rotate_left
                ·intro w'
                 go_simp
                 with_reducible rfl
                rotate_left
                ·simp only [aS, i64_w, i32_w]
                 rfl
                refine pure_ (i := 7) (N := some 45) (v := ?_) (a' := ?_) (bs 20 143) rfl rfl (any_of HT_.out (by kernel_rfl)) (fun _ _ _ h => h) (Or.inl ⟨by rfl, ?_⟩) ?_ ?_
                rotate_left
                ·intro w'
                 go_simp
                 with_reducible rfl
                rotate_left
                ·simp only [aS, i64_w, i32_w]
                 rfl
                refine pure_ (i := 8) (N := some 46) (v := ?_) (a' := ?_) (bs 20 399) rfl rfl (any_of HT_.out (by kernel_rfl)) (fun _ _ _ h => h) (Or.inl ⟨by rfl, ?_⟩) ?_ ?_
                rotate_left
                ·intro w'
                 go_simp
                 with_reducible rfl
                rotate_left
                ·simp only [aS, i64_w, i32_w]
                 rfl
                refine pure_ (i := 9) (N := some 47) (v := ?_) (a' := ?_) (bs 20 911) rfl rfl (any_of HT_.out (by kernel_rfl)) (fun _ _ _ h => h) (Or.inl ⟨by rfl, ?_⟩) ?_ ?_
                rotate_left
                ·intro w'
                 go_simp
                 with_reducible rfl
                rotate_left
                ·simp only [aS, i64_w, i32_w]
                 rfl
                refine pure_ (i := 10) (N := some 48) (v := ?_) (a' := ?_) (bs 20 1935) rfl rfl (any_of HT_.out (by kernel_rfl)) (fun _ _ _ h => h) (Or.inl ⟨by rfl, ?_⟩) ?_ ?_
                rotate_left
                ·intro w'
                 go_simp
                 with_reducible rfl
                rotate_left
                ·simp only [aS, i64_w, i32_w]
                 rfl
                refine pure_ (i := 11) (N := some 49) (v := ?_) (a' := ?_) (bs 20 3983) rfl rfl (any_of HT_.out (by kernel_rfl)) (fun _ _ _ h => h) (Or.inl ⟨by rfl, ?_⟩) ?_ ?_
                rotate_left
                ·intro w'
                 go_simp
                 with_reducible rfl
                rotate_left
                ·simp only [aS, i64_w, i32_w]
                 rfl
                refine pure_ (i := 12) (N := some 50) (v := ?_) (a' := ?_) (bs 20 8079) rfl rfl (any_of HT_.out (by kernel_rfl)) (fun _ _ _ h => h) (Or.inl ⟨by rfl, ?_⟩) ?_ ?_
                rotate_left
                ·intro w'
                 go_simp
                 with_reducible rfl
                rotate_left
                ·simp only [aS, i64_w, i32_w]
                 rfl
                refine pure_ (i := 13) (N := some 51) (v := ?_) (a' := ?_) (bs 20 16271) rfl rfl (any_of HT_.out (by kernel_rfl)) (fun _ _ _ h => h) (Or.inl ⟨by rfl, ?_⟩) ?_ ?_
                rotate_left
                ·intro w'
                 go_simp
                 with_reducible rfl
                rotate_left
                ·simp only [aS, i64_w, i32_w]
                 rfl
                refine pure_ (i := 14) (N := some 52) (v := ?_) (a' := ?_) (bs 20 32655) rfl rfl (any_of HT_.out (by kernel_rfl)) (fun _ _ _ h => h) (Or.inl ⟨by rfl, ?_⟩) ?_ ?_
                rotate_left
                ·intro w'
                 go_simp
                 with_reducible rfl
                rotate_left
                ·simp only [aS, i64_w, i32_w]
                 rfl
                refine take_ (i := 4) (N := some 42) (v := ?_) (a' := ?_) (bs 20 32671) rfl rfl (take_ofW HT_.out HW_.out (by kernel_rfl)) (fun _ _ _ h => h) (Or.inl ⟨by rfl, ?_⟩) hHeld ?_ ?_
                rotate_left
                ·intro w' s0
                 go_simp
                 with_reducible rfl
                rotate_left
                ·simp only [aS, i64_w, i32_w]
                 rfl
                refine pure_ (i := 5) (N := some 43) (v := ?_) (a' := ?_) (bs 20 32703) rfl rfl (any_of HT_.out (by kernel_rfl)) (fun _ _ _ h => h) (Or.inl ⟨by rfl, ?_⟩) ?_ ?_
                rotate_left
                ·intro w'
                 go_simp
                 with_reducible rfl
                rotate_left
                ·simp only [aS, i64_w, i32_w]
                 rfl
                refine one_ (i := 6) (N := some 44) (bs 20 32767) rfl rfl (one_of HT_.out (by kernel_rfl)) (by decide) (fun K hK => ?_)
                refine Kd.R_lit_step (Kd.int .u8) _ 5 ?hg (N := 44) ?hd (xs := ([] : List Int)) (inner := []) (ok := fun _ => True) (okp := fun _ => True) ?hr ?hp (fun _ hk => hk) trivial (Below.refl _ _) (Nat.le_refl _) (by simp) ?_; (case hd => rfl); (case hg => rfl); (case hr => first | (go_simp; done) | (go_simp; with_reducible rfl) | (go_simp; simp only [IntKind.wrap_u8, Int.emod_emod]; done) | (go_simp; simp only [IntKind.wrap_u8, Int.emod_emod]; rfl) | (go_simp; rfl)); (case hp => exact (Reps.none _ _))
                intro v204 w22 ho23 hb hg_ hnew_
                clear hg_ hnew_
                (first | rw [← Ny203.out] at ho23 | (simp only [Int.reduceToNat] at ho23; rw [← Ny203.out] at ho23))
                have n0_ := Aside0.mk (Kd.S_elder' (by (with_reducible repeat (first | apply Kd.S_alloc | apply Kd.S_drewN | apply Kd.S_drew)); exact HO_4.out) (Kd.R_base ho23) hb)
                have n1_ := Aside0.mk (Kd.R_lower ho23 (below_size (by repeat (first | (with_reducible first | exact HB.out | apply below_alloc | apply pw_below_drewN | apply below_drew1) | exact HB.out))))
                have n2_ := Aside0.mk (below_step (by repeat (first | (with_reducible first | exact HB.out | apply below_alloc | apply pw_below_drewN | apply below_drew1) | exact HB.out)) hb)
                clear HO_4
                clear HB
                have HO_4 := n0_
                have HO205 := n1_
                have HB := n2_
                clear n0_ n1_ n2_
                clear hb ho23
                refine hK.out _ _ (((HB.out.cell (World.block_lt_of_cell? w _ hw202_0)).trans hw202_0)) (fun hHeld => ?_)
                clear hK K
                refine nm_ (some 44) ?_
                refine one_ (i := 15) (N := some 53) (bs 20 65535) rfl rfl (one_of HT_.out (by kernel_rfl)) (by decide) (fun K hK => ?_)
                refine Kd.R_append_rows_step (Kd.int .u8) (w0 := w) w.heap.size (by rfl) (.tmp 44) (.tmp 52) 32 5 (.int .u8 0) 1 rfl Try.underlying32 info5 rfl (by decide) (by omega) v204 y203 ((l0.take ((wrap64 ((ji13) + (wrap64 ((wrap64 (256 * (wrap64 (rd l0 (ji4))))) + (wrap64 (rd l0 (ji7))))))) : Int).toNat).drop ((ji13) : Int).toNat) _ _ _ (fun _ => True) (fun _ => False) rfl rfl ?aO ?aR (fun _ _ h => h) (fun _ h => h.elim) ?aF ?aB ?aS ?aL ?_
                (case aR => first | (rw [← show ((l0.take ((wrap64 ((ji13) + (wrap64 ((wrap64 (256 * (wrap64 (rd l0 (ji4))))) + (wrap64 (rd l0 (ji7))))))) : Int).toNat).drop ((ji13) : Int).toNat).length = ((wrap64 ((ji13) + (wrap64 ((wrap64 (256 * (wrap64 (rd l0 (ji4))))) + (wrap64 (rd l0 (ji7))))))).toNat - (ji13).toNat) from (by rw [List.length_drop, List.length_take]; have h_ : ((wrap64 ((ji13) + (wrap64 ((wrap64 (256 * (wrap64 (rd l0 (ji4))))) + (wrap64 (rd l0 (ji7))))))) : Int) ≤ (l0.length : Int) := of_decide_eq_true (by first | (with_reducible assumption) | assumption); omega)]; repeat (first | exact (Kd.C_below HR206.out HB.out) | (with_reducible refine Kd.C_alloc ?_ _) | (with_reducible refine Kd.C_drewN ?_ _) | (with_reducible refine Kd.C_drew ?_))) | (repeat (first | exact (Kd.C_below HR206.out HB.out) | (with_reducible refine Kd.C_alloc ?_ _) | (with_reducible refine Kd.C_drewN ?_ _) | (with_reducible refine Kd.C_drew ?_))))
                (case aB => exact (by repeat (first | (with_reducible first | exact HB.out | apply below_alloc | apply pw_below_drewN | apply below_drew1) | exact HB.out)))
                (case aF => exact (fun _ _ => trivial))
                (case aO => exact (by (with_reducible repeat (first | apply Kd.R_alloc | apply Kd.R_drewN | apply Kd.R_drew)); exact HO205.out))
                (case aS => exact (below_size (by repeat (first | (with_reducible first | exact HB.out | apply below_alloc | apply pw_below_drewN | apply below_drew1) | exact HB.out))))
                (case aL => have := LMc17.out; have hlx_ := (show ((l0.take ((wrap64 ((ji13) + (wrap64 ((wrap64 (256 * (wrap64 (rd l0 (ji4))))) + (wrap64 (rd l0 (ji7))))))) : Int).toNat).drop ((ji13) : Int).toNat).length = ((wrap64 ((ji13) + (wrap64 ((wrap64 (256 * (wrap64 (rd l0 (ji4))))) + (wrap64 (rd l0 (ji7))))))).toNat - (ji13).toNat) from (by rw [List.length_drop, List.length_take]; have h_ : ((wrap64 ((ji13) + (wrap64 ((wrap64 (256 * (wrap64 (rd l0 (ji4))))) + (wrap64 (rd l0 (ji7))))))) : Int) ≤ (l0.length : Int) := of_decide_eq_true (by first | (with_reducible assumption) | assumption); omega)); omega)
                intro v208 w24 ho hb hg hat
                rw [← Ny207.out] at ho
                have n0_ := Aside0.mk (Kd.S_after (ok := (fun _ => True)) (by (with_reducible repeat (first | apply Kd.S_alloc | apply Kd.S_drewN | apply Kd.S_drew)); exact HO_4.out) hg hat)
                have n1_ := Aside0.mk (hb)
                have n2_ := Aside0.mk (ho)
                clear HO_4
                clear HB
                clear HO205
                have HO_4 := n0_
                have HB := n1_
                have HO209 := n2_
                clear n0_ n1_ n2_
                clear ho hb hg hat
                obtain ⟨Ao25, co25, eo25⟩ := Kd.R_slice HO209.out
                (first | subst eo25 | (injection eo25 with f1_ f2_ f3_; have f4_ := f1_.symm; have f5_ := f3_.symm; clear f1_ f2_ f3_; subst f4_; subst f5_))
                refine hK.out _ _ (((HB.out.cell (World.block_lt_of_cell? w _ hw202_0)).trans hw202_0)) (fun hHeld => ?_)
                clear hK K
                refine nm_ (some 53) ?_
                refine pure_ (i := 16) (N := some 54) (v := ?_) (a' := ?_) (bs 20 131071) rfl rfl (any_of HT_.out (by kernel_rfl)) (fun _ _ _ h => h) (Or.inl ⟨by rfl, ?_⟩) ?_ ?_
                rotate_left
                ·intro w'
                 go_simp
                 with_reducible rfl
                rotate_left
                ·simp only [aS, i64_w, i32_w]
                 rfl
                refine one_ (i := 17) (N := some 55) (bs 20 262143) rfl rfl (one_of HT_.out (by kernel_rfl)) (by decide) (fun K hK => ?_)
                refine value_ (w1 := ?_) (v := ?_) (by rfl) rfl ?_ ?_
                rotate_left 2
                ·go_simp
                 constructor
                 ·rfl
                 ·rfl
                refine hK.out _ _ ((World.cell?_alloc_lt _ _ _ (World.block_lt_of_cell? _ _ (((HB.out.cell (World.block_lt_of_cell? w _ hw202_0)).trans hw202_0)))).trans (((HB.out.cell (World.block_lt_of_cell? w _ hw202_0)).trans hw202_0))) (fun hHeld => ?_)
                clear hK K
                refine nm_ (some 55) ?_
                refine one_ (i := 18) (N := some 56) (bs 20 524287) rfl rfl (one_of HT_.out (by kernel_rfl)) (by decide) (fun K hK => ?_)
                refine Kd.S_append_step k48 (w0 := w) w.heap.size (by rfl) (.tmp 38) (.tmp 55) 49 48 (.agg #[(.int .i64 0), (.slice none 0 0)]) 32 rfl Try.underlying49 info48 rfl (by decide) (by omega) u4 x4_1 (⟨wrap64 (rd l0 x5_1), y207⟩ : S48) [.int .i64 (wrap64 (rd l0 x5_1)), .slice Ao25 y207.length co25] (fun _ => True) (fun k_ => some k_ = (.slice Ao25 y207.length co25 : Value).ownBlock) rfl rfl ?aP (fun k_ hk_ => ((Kd.R_mono (ok' := fun k_ => ((fun _ => True)) k_ ∧ some k_ ≠ (u4 : Value).ownBlock) (Kd.R_apart' (HO209.out) (Kd.S_typed HO_4.out) (by decide)) (fun k_ hk => ⟨trivial, hk.2⟩))).1 k_ hk_.symm) ?aF ?aO ?aB ?aS ?aL ?_
                (case aP => exact k48_mkM _ _ _ (⟨wrap64 (rd l0 x5_1), y207⟩ : S48) (Kd.R_mono (Kd.R_tight rfl (Kd.R_mono (ok' := fun k_ => ((fun _ => True)) k_ ∧ some k_ ≠ (u4 : Value).ownBlock) (Kd.R_apart' (HO209.out) (Kd.S_typed HO_4.out) (by decide)) (fun k_ hk => ⟨trivial, hk.2⟩))) (fun _ h_ => h_)))
                (case aB => exact (by repeat (first | (with_reducible first | exact HB.out | apply below_alloc | apply pw_below_drewN | apply below_drew1) | exact HB.out)))
                (case aF => exact (fun _ _ => trivial))
                (case aO => exact (by (with_reducible repeat (first | apply Kd.S_alloc | apply Kd.S_drewN | apply Kd.S_drew)); exact Kd.S_mono HO_4.out (fun k_ hk => ⟨trivial, fun e_ => hk.2 e_⟩)))
                (case aS => exact (below_size (by repeat (first | (with_reducible first | exact HB.out | apply below_alloc | apply pw_below_drewN | apply below_drew1) | exact HB.out))))
                (case aL => have := LMc18.out; omega)
                intro v211 w26 ho hb hg hat
                rw [← Ny210.out] at ho
                have n0_ := Aside0.mk (hb)
                have n1_ := Aside0.mk (ho)
                clear HB
                clear HO_4
                clear HO209
                have HB := n0_
                have HO212 := n1_
                clear n0_ n1_
                clear ho hb hg hat
                refine hK.out _ _ (((HB.out.cell (World.block_lt_of_cell? w _ hw202_0)).trans hw202_0)) (fun hHeld => ?_)
                clear hK K
                refine nm_ (some 56) ?_
                refine pure_ (i := 19) (N := some 4) (v := ?_) (a' := ?_) (bs 20 1048575) rfl rfl (any_of HT_.out (by kernel_rfl)) (fun _ _ _ h => h) (Or.inl ⟨by rfl, ?_⟩) ?_ ?_
                rotate_left
                ·intro w'
                 go_simp
                 with_reducible rfl
                rotate_left
                ·simp only [aS, i64_w, i32_w]
                 rfl
                refine done_ (done_of HT_.out (by kernel_rfl)) ?_
                try go_wp2
                go_roundg k1
                case measure => have := HK1.out; omega
                case rel => exact ⟨(y210), (wrap64 ((ji13) + (wrap64 ((wrap64 (256 * (wrap64 (rd l0 (ji4))))) + (wrap64 (rd l0 (ji7))))))), (by first | rfl | (simp; done) | (simp only [← hji4, ← hji7, ← hji13] <;> (first | rfl | simp)) | (simp [*]; done)), H', ⟨by have := HK1.out; omega⟩, ⟨by (with_reducible repeat (first | apply Kd.S_alloc | apply Kd.S_drewN | apply Kd.S_drew)); exact HO212.out⟩, ⟨by repeat (first | (with_reducible first | exact HB.out | apply below_alloc | apply pw_below_drewN | apply below_drew1) | exact HB.out)⟩⟩
               ·rw [if_neg c18] at H
                exact absurd H (by simp)
              ·rw [if_neg c17] at H
               exact absurd H (by simp)
             ·rw [if_neg c16] at H
              exact absurd H (by simp)
            ·rw [if_neg c15] at H
             exact absurd H (by simp)
           ·rw [if_neg c14] at H
            exact absurd H (by simp)
          ·rw [if_neg c12] at H
           exact absurd H (by simp)
        ·rw [if_neg c9] at H
         exact absurd H (by simp)
       ·rw [if_neg c8] at H
        exact absurd H (by simp)
      ·rw [if_neg c6] at H
       exact absurd H (by simp)
     ·rw [if_neg c5] at H
      exact absurd H (by simp)
   ·rw [if_neg c2] at H
    have c2b0 : decide (x5_1 < (l0.length : Int)) = false := decide_eq_false c2
    clear c2
    replace H := Option.bind_eq_some_iff.mp H
    obtain ⟨t199, A270, H⟩ := H
    replace H : (if t199 = true then (some (x4_1, true)) else (some (([] : List (S48)), false))) = some (r1, r2) := H
    have A27 := Aside0.mk A270
    clear A270
    by_cases c28 : t199 = true
    ·subst c28
     have H1 : (some (x4_1, true)) = some (r1, r2) := by rw [if_pos rfl] at H; exact H
     clear H
     have H := H1
     clear H1
     simp only [Option.some.injEq, Prod.mk.injEq] at H
     obtain ⟨rfl, rfl⟩ := H
     obtain ⟨Ao29, co29, eo29⟩ := Kd.S_slice HO_4.out
     subst eo29
     go_wp2_with (first | ((with_reducible refine gate_callee (f := 34) rfl ?_); refine goesL_ (some 62) rfl rfl Try.func34 (by kernel_rfl) rfl #[.slice Ao29 x4_1.length co29] rfl (by (try simp only [List.map_toArray, List.map_cons, List.map_nil]); first | done | rfl | (simp only [List.length_drop, List.length_take]; rfl)) ?_; (with_reducible refine (clapperref08_May.calls k1 _ _ x4_1 true _ ?side1 ?side2 A27.out).mono ?_); (case side1 => repeat (first | exact (Kd.S_reads' HO_4.out).2.2 | (with_reducible refine Kd.C_alloc ?_ _) | (with_reducible refine Kd.C_drewN ?_ _) | (with_reducible refine Kd.C_drew ?_))); (case side2 => exact (Kd.S_reads' HO_4.out).2.1); rintro e w' ⟨rfl, ⟨nd, rfl⟩⟩; refine ⟨_, rfl, ?_⟩))
     go_ret2
     exact ⟨_, by first | rfl | (simp [errW_none, errW_some] <;> rfl) | (simp [*, errW_none, errW_some] <;> rfl), by (with_reducible repeat (first | apply Kd.S_alloc | apply Kd.S_drewN | apply Kd.S_drew)); exact HO_4.out, by repeat (first | (with_reducible first | exact HB.out | apply below_alloc | apply pw_below_drewN | apply below_drew1) | exact HB.out)⟩
    ·replace c28 := Bool.eq_false_iff.mpr c28
     subst c28
     have H1 : (some (([] : List (S48)), false)) = some (r1, r2) := by rw [if_neg (show ¬ (false = true) by decide)] at H; exact H
     clear H
     have H := H1
     clear H1
     simp only [Option.some.injEq, Prod.mk.injEq] at H
     obtain ⟨rfl, rfl⟩ := H
     obtain ⟨Ao30, co30, eo30⟩ := Kd.S_slice HO_4.out
     subst eo30
     go_wp2_with (first | ((with_reducible refine gate_callee (f := 34) rfl ?_); refine goesL_ (some 62) rfl rfl Try.func34 (by kernel_rfl) rfl #[.slice Ao30 x4_1.length co30] rfl (by (try simp only [List.map_toArray, List.map_cons, List.map_nil]); first | done | rfl | (simp only [List.length_drop, List.length_take]; rfl)) ?_; (with_reducible refine (clapperref08_May.calls k1 _ _ x4_1 false _ ?side1 ?side2 A27.out).mono ?_); (case side1 => repeat (first | exact (Kd.S_reads' HO_4.out).2.2 | (with_reducible refine Kd.C_alloc ?_ _) | (with_reducible refine Kd.C_drewN ?_ _) | (with_reducible refine Kd.C_drew ?_))); (case side2 => exact (Kd.S_reads' HO_4.out).2.1); rintro e w' ⟨rfl, ⟨nd, rfl⟩⟩; refine ⟨_, rfl, ?_⟩))
     go_ret2
     exact ⟨_, by first | rfl | (simp [errW_none, errW_some] <;> rfl) | (simp [*, errW_none, errW_some] <;> rfl), by first | exact Kd.S_nil _ _ _ _ _ | exact Kd.N_nil _ _ _ _ _ | exact Kd.V_nil _ _ _ _ _ | exact Kd.Q_nil _ _ _ _ _ | exact Kd.R_nil _ _ _ _ _, by repeat (first | (with_reducible first | exact HB.out | apply below_alloc | apply pw_below_drewN | apply below_drew1) | exact HB.out)⟩
end Go.Proofs.Ytkaeoeebagndaaa.PRevokeTells
