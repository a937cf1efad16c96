/- What the proof of RevokeTells is made of, part 8. -/
import Derived.Test.YtkaeoeebagndaaaZRevokeTells4
import Derived.Test.YtkaeoeebagndaaaZRevokeTells7
import Derived.Test.YtkaeoeebagndaaaZRevokeTellsh
namespace Go.Proofs.Ytkaeoeebagndaaa.PRevokeTells
open Go.RowKit Go.Proofs.YtkaeoeebagndaaaW.PrintWords Go.Proofs.YtkaeoeebagndaaaW.PrintLast Go.Proofs.YtkaeoeebagndaaaW.PrintMore
attribute [local go_sem] max2_int min2_int max_two min_two max_three min_three max_four min_four   -- for this text's walks alone
set_option linter.unusedVariables false
set_option linter.unusedSimpArgs false
attribute [local go_sem high] u8_w cast_tmod eql_code neq_code eql_code_nil neq_code_nil eql_nil_code neq_nil_code
def tlv_Get.l0 : Nat → List Int → List (S48) → Option ((List (S48)) × Option Int)
 | 0, _, _ => none
 | k + 1, x0, x4 => if (x0.length : Int) ≥ 3 then (if 1 < (x0.length : Int) then (if 2 < (x0.length : Int) then (if (x4.length : Int) = 64 then (some (([] : List (S48)), some 2)) else (if (wrap64 ((wrap64 (3 + (wrap64 ((wrap64 (rd x0 1)) * 256)))) + (wrap64 (rd x0 2)))) > (x0.length : Int) then (some (([] : List (S48)), some 2)) else (if 0 < (x0.length : Int) then (if 3 ≤ (wrap64 ((wrap64 (3 + (wrap64 ((wrap64 (rd x0 1)) * 256)))) + (wrap64 (rd x0 2)))) then (if (wrap64 ((wrap64 (3 + (wrap64 ((wrap64 (rd x0 1)) * 256)))) + (wrap64 (rd x0 2)))) ≤ (x0.length : Int) then ((slices_Clone_byte_byte.f ((x0.take ((wrap64 ((wrap64 (3 + (wrap64 ((wrap64 (rd x0 1)) * 256)))) + (wrap64 (rd x0 2)))) : Int).toNat).drop 3)).bind fun t181 => (if x4.length < 4398046511104 then (if 0 ≤ (wrap64 ((wrap64 (3 + (wrap64 ((wrap64 (rd x0 1)) * 256)))) + (wrap64 (rd x0 2)))) then (tlv_Get.l0 k (x0.drop ((wrap64 ((wrap64 (3 + (wrap64 ((wrap64 (rd x0 1)) * 256)))) + (wrap64 (rd x0 2)))) : Int).toNat) (x4 ++ [(⟨wrap64 (rd x0 0), t181⟩ : S48)])) else (none)) else (none))) else (none)) else (none)) else (none)))) else (none)) else (none)) else (if (x0.length : Int) > 0 then (some (([] : List (S48)), some 2)) else ((tlv_May.f k x4).bind fun t192 => (if t192 = true then (some (x4, none)) else (some (([] : List (S48)), some 2)))))
def tlv_Get.f (k : Nat) (l0 : List Int) : Option ((List (S48)) × Option Int) := tlv_Get.l0 k l0 ([] : List (S48))
theorem tlv_Get.mono_l : ∀ k, (∀ y0 y1, LeO (tlv_Get.l0 k y0 y1) (tlv_Get.l0 (k + 1) y0 y1))
 | 0 => fun _ _ r h => by simp [tlv_Get.l0] at h
 | k + 1 => by
  have ih0 := tlv_Get.mono_l k
  ·intro y0 y1
   unfold tlv_Get.l0
   repeat' first
   | (with_reducible exact ih0 _ _)
   | (with_reducible exact tlv_May.mono _ _)
   | (with_reducible exact LeO.refl _)
   | (with_reducible exact LeO.none _)
   | (with_reducible refine LeO.ite ?_ ?_)
   | (with_reducible refine LeO.bind ?_ (fun _ => ?_))
   | exact ih0 _ _
   | exact tlv_May.mono _ _
   | exact LeO.none _
   | refine LeO.ite ?_ ?_
   | refine LeO.bind ?_ (fun _ => ?_)
theorem tlv_Get.mono : ∀ a0 k, LeO (tlv_Get.f k a0) (tlv_Get.f (k + 1) a0) := by
 intro a0 k
 have ih0 := tlv_Get.mono_l k
 unfold tlv_Get.f
 repeat' first
   | (with_reducible exact ih0 _ _)
   | (with_reducible exact tlv_May.mono _ _)
   | (with_reducible exact LeO.refl _)
   | (with_reducible exact LeO.none _)
   | (with_reducible refine LeO.ite ?_ ?_)
   | (with_reducible refine LeO.bind ?_ (fun _ => ?_))
   | exact ih0 _ _
   | exact tlv_May.mono _ _
   | exact LeO.none _
   | refine LeO.ite ?_ ?_
   | refine LeO.bind ?_ (fun _ => ?_)
def tlv_Get.T3 : Bool × List (List Nat × List Nat) := (true, [([], []), ([0], [0]), ([1], [1]), ([2], [2]), ([3], [3]), ([4], [4]), ([], []), ([6], [6]), ([7], [7]), ([8], [8]), ([5, 9], [5, 9]), ([10, 0, 1, 2, 3, 4, 5, 6, 7, 8, 9, 10], [10])])
def tlv_Get.B3 : List Nat := [0, 1, 3, 7, 15, 31, 0, 64, 192, 448, 1023, 2047]
theorem tlv_Get.tab3 : rtab .any (opsOf Try.f25 3) = tlv_Get.T3 := by kernel_rfl
theorem tlv_Get.bits3 : waitsOk tlv_Get.T3.2 tlv_Get.B3 = true := by kernel_rfl
def tlv_Get.T6 : Bool × List (List Nat × List Nat) := (true, [([], []), ([], []), ([1], [1]), ([2], [2]), ([3], [3]), ([], []), ([], []), ([5, 6], [5, 6]), ([7], [7]), ([4, 8], [4, 8]), ([9], [9]), ([0, 10, 8], [0, 10]), ([11, 11, 0, 1, 2, 3, 4, 5, 6, 7, 8, 9, 10, 11], [0, 11])])
def tlv_Get.B6 : List Nat := [0, 0, 2, 6, 14, 0, 0, 96, 224, 510, 1022, 2047, 4095]
theorem tlv_Get.tab6 : rtab .any (opsOf Try.f25 6) = tlv_Get.T6 := by kernel_rfl
theorem tlv_Get.bits6 : waitsOk tlv_Get.T6.2 tlv_Get.B6 = true := by kernel_rfl
set_option maxHeartbeats 8000000 in
set_option maxRecDepth 100000 in
theorem tlv_Get.callsV (k : Nat) (P0_ : Nat → Prop) (A0 : Option Addr) (c0 : Nat) (l0 : List Int) (r1 : List (S48)) (r2 : Option Int) (w : World) (hs0 : Kd.V (Kd.int .u8) 5 w w.heap.size (fun k_ => P0_ k_) (.slice A0 l0.length c0) l0) (h : tlv_Get.f k l0 = some (r1, r2)) :
  Calls Try.prog 25 #[.slice A0 l0.length c0] w fun e w' => ∃ v0_ : Value, e = .returned (.tuple #[v0_, errW r2]) ∧ Kd.S k48 48 w' w.heap.size (fun k_ => (w.heap.size ≤ k_)) v0_ r1 ∧ Below w.heap.size w w' := by
 have hu48 := Try.underlying48
 have hu25 := Try.underlying25
 have hu29 := Try.underlying29
 have HO0 := Aside0.mk (show Kd.V (Kd.int .u8) 5 w w.heap.size (fun k_ => (P0_ k_ ∨ w.heap.size ≤ k_)) (.slice A0 l0.length c0) l0 from Kd.V_mono hs0 (fun k_ hk => .inl hk))
 have HB := Aside0.mk (Below.refl w.heap.size w)
 have H : (tlv_Get.l0 k l0 ([] : List (S48))) = some (r1, r2) := h
 clear h
 have H' := Aside0.mk H
 clear H
 go_enter Try.func25, Try.ntmps25
 go_wp2
 go_loopg [0, 4] k (fun kq v0 v4 w' => ∃ (x0_1 : List Int) (x4_1 : List (S48)), Aside0 (tlv_Get.l0 kq x0_1 x4_1 = some (r1, r2)) ∧ Aside0 (kq ≤ k) ∧ Aside0 (Kd.V (Kd.int .u8) 5 w' w.heap.size (fun k_ => (P0_ k_ ∨ w.heap.size ≤ k_) ∧ some k_ ≠ (v4 : Value).ownBlock) v0 x0_1) ∧ Aside0 (Kd.S k48 48 w' w.heap.size (fun k_ => (w.heap.size ≤ k_)) v4 x4_1) ∧ Aside0 (Below w.heap.size w w'))
 case atStart => exact ⟨(l0), (([] : List (S48))), H', ⟨Nat.le_refl _⟩, ⟨by (with_reducible repeat (first | apply Kd.V_alloc | apply Kd.V_drewN | apply Kd.V_drew)); exact Kd.V_mono HO0.out (fun _ hk => ⟨hk, (by simp [Value.ownBlock])⟩)⟩, ⟨by first | exact Kd.S_nil _ _ _ _ _ | exact Kd.N_nil _ _ _ _ _ | exact Kd.V_nil _ _ _ _ _ | exact Kd.Q_nil _ _ _ _ _ | exact Kd.R_nil _ _ _ _ _⟩, ⟨by repeat (first | (with_reducible first | exact HB.out | apply below_alloc | apply pw_below_drewN | apply below_drew1) | exact HB.out)⟩⟩
 case round =>
  clear H'
  obtain ⟨x0_1, x4_1, HA, HK1, HO_0, HO_4, HB⟩ := hrel
  cases gk with
  | zero => exact absurd HA.out (by simp [tlv_Get.l0])
  | succ k1 =>
   have H := HA.out
   clear HA
   simp only [tlv_Get.l0] at H
   by_cases c2 : (x0_1.length : Int) ≥ 3
   ·rw [if_pos c2] at H
    have c2b0 : decide (3 ≤ (x0_1.length : Int)) = true := decide_eq_true c2
    have c2b1 : decide (3 ≤ x0_1.length) = true := decide_eq_true (by omega)
    clear c2
    by_cases c3 : 1 < (x0_1.length : Int)
    ·rw [if_pos c3] at H
     have c3b0 : decide (1 < (x0_1.length : Int)) = true := decide_eq_true c3
     have c3b1 : decide (1 < x0_1.length) = true := decide_eq_true (by omega)
     clear c3
     by_cases c4 : 2 < (x0_1.length : Int)
     ·rw [if_pos c4] at H
      have c4b0 : decide (2 < (x0_1.length : Int)) = true := decide_eq_true c4
      have c4b1 : decide (2 < x0_1.length) = true := decide_eq_true (by omega)
      clear c4
      by_cases c5 : (x4_1.length : Int) = 64
      ·rw [if_pos c5] at H
       have c5b0 : ((x4_1.length : Int) == 64) = true := beq_iff_eq.mpr c5
       have c5b1 : ((x4_1.length : Int) != 64) = false := bne_eq_false_iff_eq.mpr c5
       clear c5
       simp only [Option.some.injEq, Prod.mk.injEq] at H
       obtain ⟨rfl, rfl⟩ := H
       obtain ⟨Ao6, co6, eo6⟩ := Kd.V_slice HO_0.out
       subst eo6
       try go_wp2
       have n0_ := Aside0.mk (Kd.V_drew HO_0.out)
       have n1_ := Aside0.mk (Kd.S_drew HO_4.out)
       have n2_ := Aside0.mk (below_drew1 HB.out)
       clear HO_0
       clear HO_4
       clear HB
       have HO_0 := n0_
       have HO_4 := n1_
       have HB := n2_
       clear n0_ n1_ n2_
       have p173 : 0 ≤ (1 : Int) := (by omega)
       have q173 : 1 < (x0_1.length : Int) := of_decide_eq_true (by first | (with_reducible assumption) | assumption)
       obtain ⟨ad173, e173, hx173_0⟩ := Kd.at_int (Kd.V_reads' HO_0.out).2.2 1 p173 q173
       cases e173
       (try simp only [show (1 : Int).toNat = 1 from rfl, Nat.reduceMul, Nat.reduceEqDiff, Go.Addr.add, ↓reduceIte] at hx173_0)
       have qi173 : (1 < x0_1.length) = True := eq_true (by omega)
       (try rw [show ((1 : Int)).toNat = 1 from rfl] at hx173_0)
       replace p173 := eq_true p173
       replace q173 := eq_true q173
       have p174 : 0 ≤ (2 : Int) := (by omega)
       have q174 : 2 < (x0_1.length : Int) := of_decide_eq_true (by first | (with_reducible assumption) | assumption)
       obtain ⟨ad174, e174, hx174_0⟩ := Kd.at_int (Kd.V_reads' HO_0.out).2.2 2 p174 q174
       obtain rfl : ad173 = ad174 := (by injection e174)
       (try simp only [show (2 : Int).toNat = 2 from rfl, Nat.reduceMul, Nat.reduceEqDiff, Go.Addr.add, ↓reduceIte] at hx174_0)
       have qi174 : (2 < x0_1.length) = True := eq_true (by omega)
       (try rw [show ((2 : Int)).toNat = 2 from rfl] at hx174_0)
       replace p174 := eq_true p174
       replace q174 := eq_true q174
       refine start_ (n := 12) (S := fun w' => w'.cell? ⟨ad173.block, ad173.off + 1, none⟩ = some (.int .u8 (rd x0_1 1)) ∧ w'.cell? ⟨ad173.block, ad173.off + 2, none⟩ = some (.int .u8 (rd x0_1 2))) (ds := []) (bs 12 0) (by kernel_rfl) rfl rfl ⟨hx173_0, hx174_0⟩ (fun hHeld => ?_); refine with_tabW tlv_Get.tab3 tlv_Get.bits3 (fun HT_ HW_ => ?_)
       generalize wr.drew = w7 at HO_0 HO_4 HB hx173_0 hx174_0 hHeld ⊢
       refine pure_ (i := 0) (N := some 9) (v := ?_) (a' := ?_) (bs 12 1) rfl rfl (any_of HT_.out (by kernel_rfl)) (fun _ _ _ h => h) (Or.inl ⟨by rfl, ?_⟩) ?_ ?_
       rotate_left
       ·intro w'
        go_simp
        with_reducible rfl
       rotate_left
       ·simp only [aS, i64_w, i32_w]
        rfl
       refine pure_ (i := 1) (N := some 10) (v := ?_) (a' := ?_) (bs 12 3) rfl rfl (any_of HT_.out (by kernel_rfl)) (fun _ _ _ h => h) (Or.inl ⟨by rfl, ?_⟩) ?_ ?_
       rotate_left
       ·intro w'
        go_simp
        with_reducible rfl
       rotate_left
       ·simp only [aS, i64_w, i32_w]
        rfl
       refine pure_ (i := 6) (N := some 15) (v := ?_) (a' := ?_) (bs 12 67) rfl rfl (any_of HT_.out (by kernel_rfl)) (fun _ _ _ h => h) (Or.inl ⟨by rfl, ?_⟩) ?_ ?_
       rotate_left
       ·intro w'
        go_simp
        with_reducible rfl
       rotate_left
       ·simp only [aS, i64_w, i32_w]
        rfl
       refine pure_ (i := 7) (N := some 16) (v := ?_) (a' := ?_) (bs 12 195) rfl rfl (any_of HT_.out (by kernel_rfl)) (fun _ _ _ h => h) (Or.inl ⟨by rfl, ?_⟩) ?_ ?_
       rotate_left
       ·intro w'
        go_simp
        with_reducible rfl
       rotate_left
       ·simp only [aS, i64_w, i32_w]
        rfl
       refine take_ (i := 2) (N := some 11) (v := ?_) (a' := ?_) (bs 12 199) rfl rfl (take_ofW HT_.out HW_.out (by kernel_rfl)) (fun _ _ _ h => h) (Or.inl ⟨by rfl, ?_⟩) hHeld ?_ ?_
       rotate_left
       ·rintro w' ⟨s0, s1⟩
        go_simp
        with_reducible rfl
       rotate_left
       ·simp only [aS, i64_w, i32_w]
        rfl
       refine pure_ (i := 3) (N := some 12) (v := ?_) (a' := ?_) (bs 12 207) rfl rfl (any_of HT_.out (by kernel_rfl)) (fun _ _ _ h => h) (Or.inl ⟨by rfl, ?_⟩) ?_ ?_
       rotate_left
       ·intro w'
        go_simp
        with_reducible rfl
       rotate_left
       ·simp only [aS, i64_w, i32_w]
        rfl
       refine pure_ (i := 4) (N := some 13) (v := ?_) (a' := ?_) (bs 12 223) rfl rfl (any_of HT_.out (by kernel_rfl)) (fun _ _ _ h => h) (Or.inl ⟨by rfl, ?_⟩) ?_ ?_
       rotate_left
       ·intro w'
        go_simp
        with_reducible rfl
       rotate_left
       ·simp only [aS, i64_w, i32_w]
        rfl
       refine pure_ (i := 5) (N := some 14) (v := ?_) (a' := ?_) (bs 12 255) rfl rfl (any_of HT_.out (by kernel_rfl)) (fun _ _ _ h => h) (Or.inl ⟨by rfl, ?_⟩) ?_ ?_
       rotate_left
       ·intro w'
        go_simp
        with_reducible rfl
       rotate_left
       ·simp only [aS, i64_w, i32_w]
        rfl
       refine take_ (i := 8) (N := some 17) (v := ?_) (a' := ?_) (bs 12 511) rfl rfl (take_ofW HT_.out HW_.out (by kernel_rfl)) (fun _ _ _ h => h) (Or.inl ⟨by rfl, ?_⟩) hHeld ?_ ?_
       rotate_left
       ·rintro w' ⟨s0, s1⟩
        go_simp
        with_reducible rfl
       rotate_left
       ·simp only [aS, i64_w, i32_w]
        rfl
       refine pure_ (i := 9) (N := some 18) (v := ?_) (a' := ?_) (bs 12 1023) rfl rfl (any_of HT_.out (by kernel_rfl)) (fun _ _ _ h => h) (Or.inl ⟨by rfl, ?_⟩) ?_ ?_
       rotate_left
       ·intro w'
        go_simp
        with_reducible rfl
       rotate_left
       ·simp only [aS, i64_w, i32_w]
        rfl
       refine pure_ (i := 10) (N := some 19) (v := ?_) (a' := ?_) (bs 12 2047) rfl rfl (any_of HT_.out (by kernel_rfl)) (fun _ _ _ h => h) (Or.inl ⟨by rfl, ?_⟩) ?_ ?_
       rotate_left
       ·intro w'
        go_simp
        with_reducible rfl
       rotate_left
       ·simp only [aS, i64_w, i32_w]
        rfl
       refine pure_ (i := 11) (N := some 5) (v := ?_) (a' := ?_) (bs 12 4095) rfl rfl (any_of HT_.out (by kernel_rfl)) (fun _ _ _ h => h) (Or.inl ⟨by rfl, ?_⟩) ?_ ?_
       rotate_left
       ·intro w'
        go_simp
        with_reducible rfl
       rotate_left
       ·simp only [aS, i64_w, i32_w]
        rfl
       refine done_ (done_of HT_.out (by kernel_rfl)) ?_
       obtain ⟨Ao8, co8, eo8⟩ := Kd.S_slice HO_4.out
       subst eo8
       try go_wp2
       go_ret2
       exact ⟨_, by first | rfl | (simp [errW_none, errW_some] <;> rfl) | (simp [*, errW_none, errW_some] <;> rfl), by first | exact Kd.S_nil _ _ _ _ _ | exact Kd.N_nil _ _ _ _ _ | exact Kd.V_nil _ _ _ _ _ | exact Kd.Q_nil _ _ _ _ _ | exact Kd.R_nil _ _ _ _ _, by repeat (first | (with_reducible first | exact HB.out | apply below_alloc | apply pw_below_drewN | apply below_drew1) | exact HB.out)⟩
      ·rw [if_neg c5] at H
       have c5b0 : ((x4_1.length : Int) == 64) = false := beq_eq_false_iff_ne.mpr c5
       have c5b1 : ((x4_1.length : Int) != 64) = true := bne_iff_ne.mpr c5
       by_cases c9 : (wrap64 ((wrap64 (3 + (wrap64 ((wrap64 (rd x0_1 1)) * 256)))) + (wrap64 (rd x0_1 2)))) > (x0_1.length : Int)
       ·rw [if_pos c9] at H
        have c9b0 : decide ((x0_1.length : Int) < (wrap64 ((wrap64 (3 + (wrap64 ((wrap64 (rd x0_1 1)) * 256)))) + (wrap64 (rd x0_1 2))))) = true := decide_eq_true c9
        clear c9
        simp only [Option.some.injEq, Prod.mk.injEq] at H
        obtain ⟨rfl, rfl⟩ := H
        obtain ⟨Ao10, co10, eo10⟩ := Kd.V_slice HO_0.out
        subst eo10
        try go_wp2
        have n0_ := Aside0.mk (Kd.V_drew HO_0.out)
        have n1_ := Aside0.mk (Kd.S_drew HO_4.out)
        have n2_ := Aside0.mk (below_drew1 HB.out)
        clear HO_0
        clear HO_4
        clear HB
        have HO_0 := n0_
        have HO_4 := n1_
        have HB := n2_
        clear n0_ n1_ n2_
        have p173 : 0 ≤ (1 : Int) := (by omega)
        have q173 : 1 < (x0_1.length : Int) := of_decide_eq_true (by first | (with_reducible assumption) | assumption)
        obtain ⟨ad173, e173, hx173_0⟩ := Kd.at_int (Kd.V_reads' HO_0.out).2.2 1 p173 q173
        cases e173
        (try simp only [show (1 : Int).toNat = 1 from rfl, Nat.reduceMul, Nat.reduceEqDiff, Go.Addr.add, ↓reduceIte] at hx173_0)
        have qi173 : (1 < x0_1.length) = True := eq_true (by omega)
        (try rw [show ((1 : Int)).toNat = 1 from rfl] at hx173_0)
        replace p173 := eq_true p173
        replace q173 := eq_true q173
        have p174 : 0 ≤ (2 : Int) := (by omega)
        have q174 : 2 < (x0_1.length : Int) := of_decide_eq_true (by first | (with_reducible assumption) | assumption)
        obtain ⟨ad174, e174, hx174_0⟩ := Kd.at_int (Kd.V_reads' HO_0.out).2.2 2 p174 q174
        obtain rfl : ad173 = ad174 := (by injection e174)
        (try simp only [show (2 : Int).toNat = 2 from rfl, Nat.reduceMul, Nat.reduceEqDiff, Go.Addr.add, ↓reduceIte] at hx174_0)
        have qi174 : (2 < x0_1.length) = True := eq_true (by omega)
        (try rw [show ((2 : Int)).toNat = 2 from rfl] at hx174_0)
        replace p174 := eq_true p174
        replace q174 := eq_true q174
        refine start_ (n := 12) (S := fun w' => w'.cell? ⟨ad173.block, ad173.off + 1, none⟩ = some (.int .u8 (rd x0_1 1)) ∧ w'.cell? ⟨ad173.block, ad173.off + 2, none⟩ = some (.int .u8 (rd x0_1 2))) (ds := []) (bs 12 0) (by kernel_rfl) rfl rfl ⟨hx173_0, hx174_0⟩ (fun hHeld => ?_); refine with_tabW tlv_Get.tab3 tlv_Get.bits3 (fun HT_ HW_ => ?_)
        generalize wr.drew = w11 at HO_0 HO_4 HB hx173_0 hx174_0 hHeld ⊢
        refine pure_ (i := 0) (N := some 9) (v := ?_) (a' := ?_) (bs 12 1) rfl rfl (any_of HT_.out (by kernel_rfl)) (fun _ _ _ h => h) (Or.inl ⟨by rfl, ?_⟩) ?_ ?_
        rotate_left
        ·intro w'
         go_simp
         with_reducible rfl
        rotate_left
        ·simp only [aS, i64_w, i32_w]
         rfl
        refine pure_ (i := 1) (N := some 10) (v := ?_) (a' := ?_) (bs 12 3) rfl rfl (any_of HT_.out (by kernel_rfl)) (fun _ _ _ h => h) (Or.inl ⟨by rfl, ?_⟩) ?_ ?_
        rotate_left
        ·intro w'
         go_simp
         with_reducible rfl
        rotate_left
        ·simp only [aS, i64_w, i32_w]
         rfl
        refine pure_ (i := 6) (N := some 15) (v := ?_) (a' := ?_) (bs 12 67) rfl rfl (any_of HT_.out (by kernel_rfl)) (fun _ _ _ h => h) (Or.inl ⟨by rfl, ?_⟩) ?_ ?_
        rotate_left
        ·intro w'
         go_simp
         with_reducible rfl
        rotate_left
        ·simp only [aS, i64_w, i32_w]
         rfl
        refine pure_ (i := 7) (N := some 16) (v := ?_) (a' := ?_) (bs 12 195) rfl rfl (any_of HT_.out (by kernel_rfl)) (fun _ _ _ h => h) (Or.inl ⟨by rfl, ?_⟩) ?_ ?_
        rotate_left
        ·intro w'
         go_simp
         with_reducible rfl
        rotate_left
        ·simp only [aS, i64_w, i32_w]
         rfl
        refine take_ (i := 2) (N := some 11) (v := ?_) (a' := ?_) (bs 12 199) rfl rfl (take_ofW HT_.out HW_.out (by kernel_rfl)) (fun _ _ _ h => h) (Or.inl ⟨by rfl, ?_⟩) hHeld ?_ ?_
        rotate_left
        ·rintro w' ⟨s0, s1⟩
         go_simp
         with_reducible rfl
        rotate_left
        ·simp only [aS, i64_w, i32_w]
         rfl
        refine pure_ (i := 3) (N := some 12) (v := ?_) (a' := ?_) (bs 12 207) rfl rfl (any_of HT_.out (by kernel_rfl)) (fun _ _ _ h => h) (Or.inl ⟨by rfl, ?_⟩) ?_ ?_
        rotate_left
        ·intro w'
         go_simp
         with_reducible rfl
        rotate_left
        ·simp only [aS, i64_w, i32_w]
         rfl
        refine pure_ (i := 4) (N := some 13) (v := ?_) (a' := ?_) (bs 12 223) rfl rfl (any_of HT_.out (by kernel_rfl)) (fun _ _ _ h => h) (Or.inl ⟨by rfl, ?_⟩) ?_ ?_
        rotate_left
        ·intro w'
         go_simp
         with_reducible rfl
        rotate_left
        ·simp only [aS, i64_w, i32_w]
         rfl
        refine pure_ (i := 5) (N := some 14) (v := ?_) (a' := ?_) (bs 12 255) rfl rfl (any_of HT_.out (by kernel_rfl)) (fun _ _ _ h => h) (Or.inl ⟨by rfl, ?_⟩) ?_ ?_
        rotate_left
        ·intro w'
         go_simp
         with_reducible rfl
        rotate_left
        ·simp only [aS, i64_w, i32_w]
         rfl
        refine take_ (i := 8) (N := some 17) (v := ?_) (a' := ?_) (bs 12 511) rfl rfl (take_ofW HT_.out HW_.out (by kernel_rfl)) (fun _ _ _ h => h) (Or.inl ⟨by rfl, ?_⟩) hHeld ?_ ?_
        rotate_left
        ·rintro w' ⟨s0, s1⟩
         go_simp
         with_reducible rfl
        rotate_left
        ·simp only [aS, i64_w, i32_w]
         rfl
        refine pure_ (i := 9) (N := some 18) (v := ?_) (a' := ?_) (bs 12 1023) rfl rfl (any_of HT_.out (by kernel_rfl)) (fun _ _ _ h => h) (Or.inl ⟨by rfl, ?_⟩) ?_ ?_
        rotate_left
        ·intro w'
         go_simp
         with_reducible rfl
        rotate_left
        ·simp only [aS, i64_w, i32_w]
         rfl
        refine pure_ (i := 10) (N := some 19) (v := ?_) (a' := ?_) (bs 12 2047) rfl rfl (any_of HT_.out (by kernel_rfl)) (fun _ _ _ h => h) (Or.inl ⟨by rfl, ?_⟩) ?_ ?_
        rotate_left
        ·intro w'
         go_simp
         with_reducible rfl
        rotate_left
        ·simp only [aS, i64_w, i32_w]
         rfl
        refine pure_ (i := 11) (N := some 5) (v := ?_) (a' := ?_) (bs 12 4095) rfl rfl (any_of HT_.out (by kernel_rfl)) (fun _ _ _ h => h) (Or.inl ⟨by rfl, ?_⟩) ?_ ?_
        rotate_left
        ·intro w'
         go_simp
         with_reducible rfl
        rotate_left
        ·simp only [aS, i64_w, i32_w]
         rfl
        refine done_ (done_of HT_.out (by kernel_rfl)) ?_
        obtain ⟨Ao12, co12, eo12⟩ := Kd.S_slice HO_4.out
        subst eo12
        try go_wp2
        go_ret2
        exact ⟨_, by first | rfl | (simp [errW_none, errW_some] <;> rfl) | (simp [*, errW_none, errW_some] <;> rfl), by first | exact Kd.S_nil _ _ _ _ _ | exact Kd.N_nil _ _ _ _ _ | exact Kd.V_nil _ _ _ _ _ | exact Kd.Q_nil _ _ _ _ _ | exact Kd.R_nil _ _ _ _ _, by repeat (first | (with_reducible first | exact HB.out | apply below_alloc | apply pw_below_drewN | apply below_drew1) | exact HB.out)⟩
       ·rw [if_neg c9] at H
        have c9b0 : decide ((x0_1.length : Int) < (wrap64 ((wrap64 (3 + (wrap64 ((wrap64 (rd x0_1 1)) * 256)))) + (wrap64 (rd x0_1 2))))) = false := decide_eq_false c9
        clear c9
        by_cases c13 : 0 < (x0_1.length : Int)
        ·rw [if_pos c13] at H
         have c13b0 : decide (0 < (x0_1.length : Int)) = true := decide_eq_true c13
         have c13b1 : decide (0 < x0_1.length) = true := decide_eq_true (by omega)
         clear c13
         by_cases c14 : 3 ≤ (wrap64 ((wrap64 (3 + (wrap64 ((wrap64 (rd x0_1 1)) * 256)))) + (wrap64 (rd x0_1 2))))
         ·rw [if_pos c14] at H
          have c14b0 := eq_true c14
          have c14b1 : decide (3 ≤ (wrap64 ((wrap64 (3 + (wrap64 ((wrap64 (rd x0_1 1)) * 256)))) + (wrap64 (rd x0_1 2))))) = true := decide_eq_true c14
          by_cases c15 : (wrap64 ((wrap64 (3 + (wrap64 ((wrap64 (rd x0_1 1)) * 256)))) + (wrap64 (rd x0_1 2)))) ≤ (x0_1.length : Int)
          ·rw [if_pos c15] at H
           have c15b0 := eq_true c15
           have c15b1 : decide ((wrap64 ((wrap64 (3 + (wrap64 ((wrap64 (rd x0_1 1)) * 256)))) + (wrap64 (rd x0_1 2)))) ≤ (x0_1.length : Int)) = true := decide_eq_true c15
           obtain ⟨y176, hy176⟩ : ∃ y_ : List Int, y_ = ((x0_1.take ((wrap64 ((wrap64 (3 + (wrap64 ((wrap64 (rd x0_1 1)) * 256)))) + (wrap64 (rd x0_1 2)))) : Int).toNat).drop 3) := ⟨_, rfl⟩
           replace H : ((slices_Clone_byte_byte.f y176).bind fun t181 => (if x4_1.length < 4398046511104 then (if 0 ≤ (wrap64 ((wrap64 (3 + (wrap64 ((wrap64 (rd x0_1 1)) * 256)))) + (wrap64 (rd x0_1 2)))) then (tlv_Get.l0 k1 (x0_1.drop ((wrap64 ((wrap64 (3 + (wrap64 ((wrap64 (rd x0_1 1)) * 256)))) + (wrap64 (rd x0_1 2)))) : Int).toNat) (x4_1 ++ [(⟨wrap64 (rd x0_1 0), t181⟩ : S48)])) else (none)) else (none))) = some (r1, r2) := by first | (rw [hy176]; with_reducible exact H) | (have H2_ := (Option.bind_some _ _).symm.trans H; rw [hy176]; with_reducible exact H2_) | (have H2_ := (Option.bind_some _ _).symm.trans H; with_reducible exact H2_) | with_reducible exact H | (rw [hy176]; exact H) | exact H
           have Ny176 := Aside0.mk hy176
           clear hy176
           replace H := Option.bind_eq_some_iff.mp H
           obtain ⟨t181, A160, H⟩ := H
           replace H : (if x4_1.length < 4398046511104 then (if 0 ≤ (wrap64 ((wrap64 (3 + (wrap64 ((wrap64 (rd x0_1 1)) * 256)))) + (wrap64 (rd x0_1 2)))) then (tlv_Get.l0 k1 (x0_1.drop ((wrap64 ((wrap64 (3 + (wrap64 ((wrap64 (rd x0_1 1)) * 256)))) + (wrap64 (rd x0_1 2)))) : Int).toNat) (x4_1 ++ [(⟨wrap64 (rd x0_1 0), t181⟩ : S48)])) else (none)) else (none)) = some (r1, r2) := H
           have A16 := Aside0.mk A160
           clear A160
           by_cases c17 : x4_1.length < 4398046511104
           ·rw [if_pos c17] at H
            have LMc17 := Aside0.mk c17
            clear c17
            obtain ⟨y184, hy184⟩ : ∃ y_ : List (S48), y_ = (x4_1 ++ [(⟨wrap64 (rd x0_1 0), t181⟩ : S48)]) := ⟨_, rfl⟩
            replace H : (if 0 ≤ (wrap64 ((wrap64 (3 + (wrap64 ((wrap64 (rd x0_1 1)) * 256)))) + (wrap64 (rd x0_1 2)))) then (tlv_Get.l0 k1 (x0_1.drop ((wrap64 ((wrap64 (3 + (wrap64 ((wrap64 (rd x0_1 1)) * 256)))) + (wrap64 (rd x0_1 2)))) : Int).toNat) y184) else (none)) = some (r1, r2) := by first | (rw [hy184]; with_reducible exact H) | (have H2_ := (Option.bind_some _ _).symm.trans H; rw [hy184]; with_reducible exact H2_) | (have H2_ := (Option.bind_some _ _).symm.trans H; with_reducible exact H2_) | with_reducible exact H | (rw [hy184]; exact H) | exact H
            have Ny184 := Aside0.mk hy184
            clear hy184
            obtain ⟨ji18, hji18⟩ : ∃ j_ : Int, (wrap64 ((wrap64 (3 + (wrap64 ((wrap64 (rd x0_1 1)) * 256)))) + (wrap64 (rd x0_1 2)))) = j_ := ⟨_, rfl⟩
            replace H : (if 0 ≤ (ji18) then (tlv_Get.l0 k1 (x0_1.drop ((ji18) : Int).toNat) y184) else (none)) = some (r1, r2) := by first | (rw [hji18] at H; exact H) | (simp only [hji18] at H ⊢; exact H)
            (try rw [hji18] at c9b0)
            (try rw [hji18] at c14b0)
            (try rw [hji18] at c14b1)
            (try rw [hji18] at c14)
            (try rw [hji18] at c15b0)
            (try rw [hji18] at c15b1)
            (try rw [hji18] at c15)
            (try rw [hji18] at Ny176)
            (try rw [hji18] at A16)
            have hji18w : (IntKind.i64.wrap ((wrap64 (3 + (wrap64 ((wrap64 (rd x0_1 1)) * 256)))) + (wrap64 (rd x0_1 2)))) = ji18 := (i64_w _).trans hji18
            by_cases c19 : 0 ≤ (ji18)
            ·rw [if_pos c19] at H
             have c19b0 := eq_true c19
             have c19b1 : decide (0 ≤ (ji18)) = true := decide_eq_true c19
             clear c19
             have c20b0 := eq_true (of_decide_eq_true (by first | (with_reducible assumption) | assumption) : (ji18) ≤ (x0_1.length : Int))
             obtain ⟨y187, hy187⟩ : ∃ y_ : List Int, y_ = (x0_1.drop ((ji18) : Int).toNat) := ⟨_, rfl⟩
             replace H : (tlv_Get.l0 k1 y187 y184) = some (r1, r2) := by first | (rw [hy187]; with_reducible exact H) | (have H2_ := (Option.bind_some _ _).symm.trans H; rw [hy187]; with_reducible exact H2_) | (have H2_ := (Option.bind_some _ _).symm.trans H; with_reducible exact H2_) | with_reducible exact H | (rw [hy187]; exact H) | exact H
             have Ny187 := Aside0.mk hy187
             clear hy187
             have H' := Aside0.mk H
             clear H
             obtain ⟨Ao21, co21, eo21⟩ := Kd.V_slice HO_0.out
             subst eo21
             try go_wp2
             have n0_ := Aside0.mk (Kd.V_drew HO_0.out)
             have n1_ := Aside0.mk (Kd.S_drew HO_4.out)
             have n2_ := Aside0.mk (below_drew1 HB.out)
             clear HO_0
             clear HO_4
             clear HB
             have HO_0 := n0_
             have HO_4 := n1_
             have HB := n2_
             clear n0_ n1_ n2_
             have p173 : 0 ≤ (1 : Int) := (by omega)
             have q173 : 1 < (x0_1.length : Int) := of_decide_eq_true (by first | (with_reducible assumption) | assumption)
             obtain ⟨ad173, e173, hx173_0⟩ := Kd.at_int (Kd.V_reads' HO_0.out).2.2 1 p173 q173
             cases e173
             (try simp only [show (1 : Int).toNat = 1 from rfl, Nat.reduceMul, Nat.reduceEqDiff, Go.Addr.add, ↓reduceIte] at hx173_0)
             have qi173 : (1 < x0_1.length) = True := eq_true (by omega)
             (try rw [show ((1 : Int)).toNat = 1 from rfl] at hx173_0)
             replace p173 := eq_true p173
             replace q173 := eq_true q173
             have p174 : 0 ≤ (2 : Int) := (by omega)
             have q174 : 2 < (x0_1.length : Int) := of_decide_eq_true (by first | (with_reducible assumption) | assumption)
             obtain ⟨ad174, e174, hx174_0⟩ := Kd.at_int (Kd.V_reads' HO_0.out).2.2 2 p174 q174
             obtain rfl : ad173 = ad174 := (by injection e174)
             (try simp only [show (2 : Int).toNat = 2 from rfl, Nat.reduceMul, Nat.reduceEqDiff, Go.Addr.add, ↓reduceIte] at hx174_0)
             have qi174 : (2 < x0_1.length) = True := eq_true (by omega)
             (try rw [show ((2 : Int)).toNat = 2 from rfl] at hx174_0)
             replace p174 := eq_true p174
             replace q174 := eq_true q174
             refine start_ (n := 12) (S := fun w' => w'.cell? ⟨ad173.block, ad173.off + 1, none⟩ = some (.int .u8 (rd x0_1 1)) ∧ w'.cell? ⟨ad173.block, ad173.off + 2, none⟩ = some (.int .u8 (rd x0_1 2))) (ds := []) (bs 12 0) (by kernel_rfl) rfl rfl ⟨hx173_0, hx174_0⟩ (fun hHeld => ?_); refine with_tabW tlv_Get.tab3 tlv_Get.bits3 (fun HT_ HW_ => ?_)
             generalize wr.drew = w22 at HO_0 HO_4 HB hx173_0 hx174_0 hHeld ⊢
             refine pure_ (i := 0) (N := some 9) (v := ?_) (a' := ?_) (bs 12 1) rfl rfl (any_of HT_.out (by kernel_rfl)) (fun _ _ _ h => h) (Or.inl ⟨by rfl, ?_⟩) ?_ ?_
             rotate_left
             ·intro w'
              go_simp
              with_reducible rfl
             rotate_left
             ·simp only [aS, i64_w, i32_w]
              rfl
             refine pure_ (i := 1) (N := some 10) (v := ?_) (a' := ?_) (bs 12 3) rfl rfl (any_of HT_.out (by kernel_rfl)) (fun _ _ _ h => h) (Or.inl ⟨by rfl, ?_⟩) ?_ ?_
             rotate_left
             ·intro w'
              go_simp
              with_reducible rfl
             rotate_left
             ·simp only [aS, i64_w, i32_w]
              rfl
             refine pure_ (i := 6) (N := some 15) (v := ?_) (a' := ?_) (bs 12 67) rfl rfl (any_of HT_.out (by kernel_rfl)) (fun _ _ _ h => h) (Or.inl ⟨by rfl, ?_⟩) ?_ ?_
             rotate_left
             ·intro w'
              go_simp
              with_reducible rfl
             rotate_left
             ·simp only [aS, i64_w, i32_w]
              rfl
             refine pure_ (i := 7) (N := some 16) (v := ?_) (a' := ?_) (bs 12 195) rfl rfl (any_of HT_.out (by kernel_rfl)) (fun _ _ _ h => h) (Or.inl ⟨by rfl, ?_⟩) ?_ ?_
             rotate_left
             ·intro w'
              go_simp
              with_reducible rfl
             rotate_left
             ·simp only [aS, i64_w, i32_w]
              rfl
             refine take_ (i := 2) (N := some 11) (v := ?_) (a' := ?_) (bs 12 199) rfl rfl (take_ofW HT_.out HW_.out (by kernel_rfl)) (fun _ _ _ h => h) (Or.inl ⟨by rfl, ?_⟩) hHeld ?_ ?_
             rotate_left
             ·rintro w' ⟨s0, s1⟩
              go_simp
              with_reducible rfl
             rotate_left
             ·simp only [aS, i64_w, i32_w]
              rfl
             refine pure_ (i := 3) (N := some 12) (v := ?_) (a' := ?_) (bs 12 207) rfl rfl (any_of HT_.out (by kernel_rfl)) (fun _ _ _ h => h) (Or.inl ⟨by rfl, ?_⟩) ?_ ?_
             rotate_left
             ·intro w'
              go_simp
              with_reducible rfl
             rotate_left
             ·simp only [aS, i64_w, i32_w]
              rfl
             refine pure_ (i := 4) (N := some 13) (v := ?_) (a' := ?_) (bs 12 223) rfl rfl (any_of HT_.out (by kernel_rfl)) (fun _ _ _ h => h) (Or.inl ⟨by rfl, ?_⟩) ?_ ?_
             rotate_left
             ·intro w'
              go_simp
              with_reducible rfl
             rotate_left
             ·simp only [aS, i64_w, i32_w]
              rfl
             refine pure_ (i := 5) (N := some 14) (v := ?_) (a' := ?_) (bs 12 255) rfl rfl (any_of HT_.out (by kernel_rfl)) (fun _ _ _ h => h) (Or.inl ⟨by rfl, ?_⟩) ?_ ?_
             rotate_left
             ·intro w'
              go_simp
              with_reducible rfl
             rotate_left
             ·simp only [aS, i64_w, i32_w]
              rfl
             refine take_ (i := 8) (N := some 17) (v := ?_) (a' := ?_) (bs 12 511) rfl rfl (take_ofW HT_.out HW_.out (by kernel_rfl)) (fun _ _ _ h => h) (Or.inl ⟨by rfl, ?_⟩) hHeld ?_ ?_
             rotate_left
             ·rintro w' ⟨s0, s1⟩
              go_simp
              with_reducible rfl
             rotate_left
             ·simp only [aS, i64_w, i32_w]
              rfl
             refine pure_ (i := 9) (N := some 18) (v := ?_) (a' := ?_) (bs 12 1023) rfl rfl (any_of HT_.out (by kernel_rfl)) (fun _ _ _ h => h) (Or.inl ⟨by rfl, ?_⟩) ?_ ?_
             rotate_left
             ·intro w'
              go_simp
              with_reducible rfl
             rotate_left
             ·simp only [aS, i64_w, i32_w]
              rfl
             refine pure_ (i := 10) (N := some 19) (v := ?_) (a' := ?_) (bs 12 2047) rfl rfl (any_of HT_.out (by kernel_rfl)) (fun _ _ _ h => h) (Or.inl ⟨by rfl, ?_⟩) ?_ ?_
             rotate_left
             ·intro w'
              go_simp
              with_reducible rfl
             rotate_left
             ·simp only [aS, i64_w, i32_w]
              rfl
             refine pure_ (i := 11) (N := some 5) (v := ?_) (a' := ?_) (bs 12 4095) rfl rfl (any_of HT_.out (by kernel_rfl)) (fun _ _ _ h => h) (Or.inl ⟨by rfl, ?_⟩) ?_ ?_
             rotate_left
             ·intro w'
              go_simp
              with_reducible rfl
             rotate_left
             ·simp only [aS, i64_w, i32_w]
              rfl
             refine done_ (done_of HT_.out (by kernel_rfl)) ?_
             obtain ⟨Ao23, co23, eo23⟩ := Kd.S_slice HO_4.out
             subst eo23
             try go_wp2
             have n0_ := Aside0.mk (Kd.V_drew HO_0.out)
             have n1_ := Aside0.mk (Kd.S_drew HO_4.out)
             have n2_ := Aside0.mk (below_drew1 HB.out)
             clear HO_0
             clear HO_4
             clear HB
             have HO_0 := n0_
             have HO_4 := n1_
             have HB := n2_
             clear n0_ n1_ n2_
             have p175 : 0 ≤ (0 : Int) := (by omega)
             have q175 : 0 < (x0_1.length : Int) := of_decide_eq_true (by first | (with_reducible assumption) | assumption)
             obtain ⟨ad175, e175, hx175_0⟩ := Kd.at_int (Kd.V_reads' HO_0.out).2.2 0 p175 q175
             obtain rfl : ad173 = ad175 := (by injection e175)
             have qi175 : (0 < x0_1.length) = True := eq_true (by omega)
             (try rw [show ((0 : Int)).toNat = 0 from rfl] at hx175_0)
             (try rw [Addr.add_zero'] at hx175_0)
             replace p175 := eq_true p175
             replace q175 := eq_true q175
             have q25 : ((ji18) : Int) ≤ ((x0_1.length : Int) : Int) := of_decide_eq_true (by first | (with_reducible assumption) | assumption)
             obtain ⟨i025, hi025, _, hsz25, _⟩ := info_parts info5
             have hroom25 : x0_1.length ≤ co21 := (Kd.V_reads' HO_0.out).2.1
             have hC25 : Kd.F (Kd.int .u8) _ _ (some ad173) x0_1.length x0_1 := (Kd.V_at (base := w.heap.size) HO_0.out).2.2
             have ql25 : (3 : Int) ≤ ((ji18) : Int) := of_decide_eq_true (by first | (with_reducible assumption) | assumption)
             have hcut25 := cut_mid (P := Try.prog) 32 5 .i64 .i64 Try.underlying32 hi025 1 hsz25 (some ad173) x0_1.length co21 3 (ji18) (by omega) ql25 q25 hroom25
             have hr25 := Kd.F_mid (lo := (3 : Int).toNat) (hi := ((ji18) : Int).toNat) (c := co21) hC25 (by omega) (by omega) hroom25
             obtain ⟨A25, hA25⟩ : ∃ A1, A1 = (if co21 = (3 : Int).toNat then (some ad173) else ((some ad173) : Option Addr).map (·.add ((3 : Int).toNat * 1))) := ⟨_, rfl⟩
             obtain ⟨c25, hc25⟩ : ∃ c1, c1 = co21 - (3 : Int).toNat := ⟨_, rfl⟩
             have hy25 : y176.length = ((ji18) : Int).toNat - (3 : Int).toNat := (by rw [Ny176.out, List.length_drop, List.length_take] <;> omega)
             rw [show ((x0_1).take ((ji18) : Int).toNat).drop (3 : Int).toNat = y176 from Ny176.out.symm] at hr25
             replace hr25 : Kd.F (Kd.int .u8) _ _ A25 y176.length y176 := (by rw [hA25]; exact hr25)
             rw [← hy25, ← hA25, ← hc25] at hcut25
             have HO180 := Aside0.mk (show Kd.V (Kd.int .u8) 5 _ w.heap.size _ (.slice A25 y176.length c25) y176 from Kd.V_mk (by rw [hy25, hc25]; exact Nat.sub_le_sub_right (Nat.le_trans (by omega) hroom25) _) hr25)
             have HC180 := Aside0.mk (show y176.length ≤ c25 from by rw [hy25, hc25]; exact Nat.sub_le_sub_right (Nat.le_trans (by omega) hroom25) _)
             clear hr25 hC25 hroom25 hi025 hsz25 hc25
             have KY25 := Aside0.mk hy25
             have KA25 := Aside0.mk hA25
             clear hy25 hA25
             replace q25 := eq_true q25
             refine start_ (n := 13) (S := fun w' => w'.cell? ad173 = some (.int .u8 (rd x0_1 0))) (ds := [10, 11]) (bs 13 0) (by kernel_rfl) rfl rfl (hx175_0) (fun hHeld => ?_); refine with_tabW tlv_Get.tab6 tlv_Get.bits6 (fun HT_ HW_ => ?_)
             generalize w22.drew = w24 at HO_0 HO_4 HB HO180 hx175_0 hHeld ⊢
             refine pure_ (i := 0) (N := some 30) (v := ?_) (a' := ?_) (bs 13 1) rfl rfl (any_of HT_.out (by kernel_rfl)) (fun _ _ _ h => h) (Or.inl ⟨by rfl, ?_⟩) ?_ ?_
             rotate_left
             ·intro w'
              go_simp
              with_reducible rfl
             rotate_left
             ·simp only [aS, i64_w, i32_w]
              rfl
             refine pure_ (i := 1) (N := some 31) (v := ?_) (a' := ?_) (bs 13 3) rfl rfl (any_of HT_.out (by kernel_rfl)) (fun _ _ _ h => h) (Or.inl ⟨by rfl, ?_⟩) ?_ ?_
             rotate_left
             ·intro w'
              go_simp
              with_reducible rfl
             rotate_left
             ·simp only [aS, i64_w, i32_w]
              rfl
             refine pure_ (i := 2) (N := some 32) (v := ?_) (a' := ?_) (bs 13 7) rfl rfl (any_of HT_.out (by kernel_rfl)) (fun _ _ _ h => h) (Or.inl ⟨by rfl, ?_⟩) ?_ ?_
             rotate_left
             ·intro w'
              go_simp
              with_reducible rfl
             rotate_left
             ·simp only [aS, i64_w, i32_w]
              rfl
             refine pure_ (i := 5) (N := some 35) (v := ?_) (a' := ?_) (bs 13 39) rfl rfl (any_of HT_.out (by kernel_rfl)) (fun _ _ _ h => h) (Or.inl ⟨by rfl, ?_⟩) ?_ ?_
             rotate_left
             ·intro w'
              go_simp
              with_reducible rfl
             rotate_left
             ·simp only [aS, i64_w, i32_w]
              rfl
             refine pure_ (i := 6) (N := some 36) (v := ?_) (a' := ?_) (bs 13 103) rfl rfl (any_of HT_.out (by kernel_rfl)) (fun _ _ _ h => h) (Or.inl ⟨by rfl, ?_⟩) ?_ ?_
             rotate_left
             ·intro w'
              go_simp
              with_reducible rfl
             rotate_left
             ·simp only [aS, i64_w, i32_w]
              rfl
             refine pure_ (i := 7) (N := some 37) (v := ?_) (a' := ?_) (bs 13 231) rfl rfl (any_of HT_.out (by kernel_rfl)) (fun _ _ _ h => h) (Or.inl ⟨by rfl, ?_⟩) ?_ ?_
             rotate_left
             ·intro w'
              go_simp
              with_reducible rfl
             rotate_left
             ·simp only [aS, i64_w, i32_w]
              rfl
             refine take_ (i := 3) (N := some 33) (v := ?_) (a' := ?_) (bs 13 239) rfl rfl (take_ofW HT_.out HW_.out (by kernel_rfl)) (fun _ _ _ h => h) (Or.inl ⟨by rfl, ?_⟩) hHeld ?_ ?_
             rotate_left
             ·intro w' s0
              go_simp
              with_reducible rfl
             rotate_left
             ·simp only [aS, i64_w, i32_w]
              rfl
             refine pure_ (i := 4) (N := some 34) (v := ?_) (a' := ?_) (bs 13 255) rfl rfl (any_of HT_.out (by kernel_rfl)) (fun _ _ _ h => h) (Or.inl ⟨by rfl, ?_⟩) ?_ ?_
             rotate_left
             ·intro w'
              go_simp
              with_reducible rfl
             rotate_left
             ·simp only [aS, i64_w, i32_w]
              rfl
             refine one_ (i := 8) (N := some 38) (bs 13 511) rfl rfl (one_of HT_.out (by kernel_rfl)) (by decide) (fun K hK => ?_)
             refine goes_ Try.func32 (by kernel_rfl) rfl #[.slice A25 y176.length c25] (by rfl) rfl rfl (by (try simp only [List.map_toArray, List.map_cons, List.map_nil]); first | done | rfl | (simp only [List.length_drop, List.length_take]; rfl)) ?_
             with_reducible refine (slices_Clone_byte_byte.calls _ _ y176 t181 _ ?side1 ?side2 A16.out).mono ?_
             (case side1 => repeat (first | exact (Kd.V_reads' HO180.out).2.2 | (with_reducible refine Kd.C_alloc ?_ _) | (with_reducible refine Kd.C_drewN ?_ _) | (with_reducible refine Kd.C_drew ?_)))
             (case side2 => exact (Kd.V_reads' HO180.out).2.1)
             rintro e w26 ⟨v182, rfl, ho0, hb⟩
             have HS0_ := (hb.cell (World.block_lt_of_cell? _ _ (hHeld))).trans (hHeld)
             refine ⟨_, rfl, ?_⟩
             have n0_ := Aside0.mk (Kd.V_elder' (by (with_reducible repeat (first | apply Kd.V_alloc | apply Kd.V_drewN | apply Kd.V_drew)); exact HO_0.out) (Kd.R_base ho0) hb)
             have n1_ := Aside0.mk (Kd.S_elder' (by (with_reducible repeat (first | apply Kd.S_alloc | apply Kd.S_drewN | apply Kd.S_drew)); exact HO_4.out) (Kd.R_base ho0) hb)
             have n2_ := Aside0.mk (Kd.V_elder' (by (with_reducible repeat (first | apply Kd.V_alloc | apply Kd.V_drewN | apply Kd.V_drew)); exact HO180.out) (Kd.R_base ho0) hb)
             have n3_ := Aside0.mk (Kd.R_lower (Kd.R_newM (M := fun k_ => (w.heap.size ≤ k_)) ho0 (below_size (by repeat (first | (with_reducible first | exact HB.out | apply below_alloc | apply pw_below_drewN | apply below_drew1) | exact HB.out))) (fun k_ h_ => h_)) (below_size (by repeat (first | (with_reducible first | exact HB.out | apply below_alloc | apply pw_below_drewN | apply below_drew1) | exact HB.out))))
             have n4_ := Aside0.mk (below_step (by repeat (first | (with_reducible first | exact HB.out | apply below_alloc | apply pw_below_drewN | apply below_drew1) | exact HB.out)) hb)
             clear HO_0
             clear HO_4
             clear HO180
             clear HB
             have HO_0 := n0_
             have HO_4 := n1_
             have HO180 := n2_
             have HO183 := n3_
             have HB := n4_
             clear n0_ n1_ n2_ n3_ n4_
             (try clear hb)
             (try clear hb2)
             (try clear hk)
             (try clear hi)
             (try clear ho0)
             obtain ⟨Ao27, co27, eo27⟩ := Kd.R_slice HO183.out
             (first | subst eo27 | (injection eo27 with f1_ f2_ f3_; have f4_ := f1_.symm; have f5_ := f3_.symm; clear f1_ f2_ f3_; subst f4_; subst f5_))
             refine hK.out _ _ (HS0_) (fun hHeld => ?_)
             clear hK K
             refine nm_ (some 38) ?_
             refine pure_ (i := 9) (N := some 39) (v := ?_) (a' := ?_) (bs 13 1023) rfl rfl (any_of HT_.out (by kernel_rfl)) (fun _ _ _ h => h) (Or.inl ⟨by rfl, ?_⟩) ?_ ?_
             rotate_left
             ·intro w'
              go_simp
              with_reducible rfl
             rotate_left
             ·simp only [aS, i64_w, i32_w]
              rfl
             refine last_ (i := 10) (N := some 40) (bs 13 2047) rfl rfl (one_of HT_.out (by kernel_rfl)) (by decide) (fun K hK => ?_)
             refine value_ (w1 := ?_) (v := ?_) (by rfl) rfl ?_ ?_
             rotate_left 2
             ·go_simp
              constructor
              ·rfl
              ·rfl
             refine hK.out _ _ ?_
             clear hK K
             refine nm_ (some 40) ?_
             refine last_ (i := 11) (N := some 41) (bs 13 4095) rfl rfl (one_of HT_.out (by kernel_rfl)) (by decide) (fun K hK => ?_)
             refine Kd.S_append_step k48 (w0 := w) w.heap.size (by rfl) (.tmp 30) (.tmp 40) 49 48 (.agg #[(.int .i64 0), (.slice none 0 0)]) 32 rfl Try.underlying49 info48 rfl (by decide) (by omega) (.slice Ao23 x4_1.length co23) x4_1 (⟨wrap64 (rd x0_1 0), t181⟩ : S48) [.int .i64 (wrap64 (rd x0_1 0)), .slice Ao27 t181.length co27] (fun k_ => (w.heap.size ≤ k_)) (fun k_ => some k_ = (.slice Ao27 t181.length co27 : Value).ownBlock) rfl rfl ?aP (fun k_ hk_ => ((Kd.R_mono (ok' := fun k_ => ((fun k_ => (w.heap.size ≤ k_))) k_ ∧ some k_ ≠ (.slice Ao23 x4_1.length co23 : Value).ownBlock) (Kd.R_apart' (HO183.out) (Kd.S_typed HO_4.out) (by decide)) (fun k_ hk => ⟨hk.1.1, hk.2⟩))).1 k_ hk_.symm) ?aF ?aO ?aB ?aS ?aL ?_
             (case aP => exact k48_mkM _ _ _ (⟨wrap64 (rd x0_1 0), t181⟩ : S48) (Kd.R_mono (Kd.R_tight rfl (Kd.R_mono (ok' := fun k_ => ((fun k_ => (w.heap.size ≤ k_))) k_ ∧ some k_ ≠ (.slice Ao23 x4_1.length co23 : Value).ownBlock) (Kd.R_apart' (HO183.out) (Kd.S_typed HO_4.out) (by decide)) (fun k_ hk => ⟨hk.1.1, hk.2⟩))) (fun _ h_ => h_)))
             (case aB => exact (by repeat (first | (with_reducible first | exact HB.out | apply below_alloc | apply pw_below_drewN | apply below_drew1) | exact HB.out)))
             (case aF => exact (fun k_ hk => (Nat.le_trans (below_size (by repeat (first | (with_reducible first | exact HB.out | apply below_alloc | apply pw_below_drewN | apply below_drew1) | exact HB.out))) hk)))
             (case aO => exact (by (with_reducible repeat (first | apply Kd.S_alloc | apply Kd.S_drewN | apply Kd.S_drew)); exact Kd.S_mono HO_4.out (fun k_ hk => ⟨hk.1, fun e_ => hk.2 e_⟩)))
             (case aS => exact (below_size (by repeat (first | (with_reducible first | exact HB.out | apply below_alloc | apply pw_below_drewN | apply below_drew1) | exact HB.out))))
             (case aL => have := LMc17.out; omega)
             intro v185 w28 ho hb hg hat
             rw [← Ny184.out] at ho
             have n0_ := Aside0.mk (Kd.V_afterv (ok := (fun k_ => (P0_ k_ ∨ w.heap.size ≤ k_) ∧ some k_ ≠ (.slice Ao27 t181.length co27 : Value).ownBlock)) (by (with_reducible repeat (first | apply Kd.V_alloc | apply Kd.V_drewN | apply Kd.V_drew)); exact Kd.V_mono HO_0.out (fun _ hk => ⟨⟨hk.1.1, hk.2⟩, hk.1.2⟩)) hg hat)
             have n1_ := Aside0.mk (Kd.V_afterv (ok := (fun k_ => (P0_ k_ ∨ w.heap.size ≤ k_) ∧ some k_ ≠ (.slice Ao27 t181.length co27 : Value).ownBlock)) (by (with_reducible repeat (first | apply Kd.V_alloc | apply Kd.V_drewN | apply Kd.V_drew)); exact Kd.V_mono HO180.out (fun _ hk => ⟨⟨hk.1.1, hk.2⟩, hk.1.2⟩)) hg hat)
             have n2_ := Aside0.mk (hb)
             have n3_ := Aside0.mk (ho)
             clear HO_0
             clear HO180
             clear HB
             clear HO_4
             clear HO183
             have HO_0 := n0_
             have HO180 := n1_
             have HB := n2_
             have HO186 := n3_
             clear n0_ n1_ n2_ n3_
             clear ho hb hg hat
             refine hK.out _ _ ?_
             clear hK K
             refine nm_ (some 41) ?_
             refine pure_ (i := 12) (N := some 4) (v := ?_) (a' := ?_) (bs 13 8191) rfl rfl (any_of HT_.out (by kernel_rfl)) (fun _ _ _ h => h) (Or.inl ⟨by rfl, ?_⟩) ?_ ?_
             rotate_left
             ·intro w'
              go_simp
              with_reducible rfl
             rotate_left
             ·simp only [aS, i64_w, i32_w]
              rfl
             refine done_ (done_of HT_.out (by kernel_rfl)) ?_
             have q29 : ((ji18) : Int) ≤ ((x0_1.length : Int) : Int) := of_decide_eq_true (by first | (with_reducible assumption) | assumption)
             obtain ⟨i029, hi029, _, hsz29, _⟩ := info_parts info5
             have hroom29 : x0_1.length ≤ co21 := (Kd.V_reads' HO_0.out).2.1
             have hC29 : Kd.F (Kd.int .u8) _ _ (some ad173) x0_1.length x0_1 := (Kd.V_at (base := w.heap.size) HO_0.out).2.2
             have q029 : (0 : Int) ≤ ((ji18) : Int) := of_decide_eq_true (by first | (with_reducible assumption) | assumption)
             have hcut29 := cut_from (P := Try.prog) 32 5 .i64 Try.underlying32 hi029 1 hsz29 (some ad173) x0_1.length co21 (ji18) q029 q29
             have hr29 := Kd.F_cut (m := ((ji18) : Int).toNat) (c := co21) hC29 (by omega) hroom29
             obtain ⟨A29, hA29⟩ : ∃ A1, A1 = (if co21 = ((ji18) : Int).toNat then (some ad173) else ((some ad173) : Option Addr).map (·.add (((ji18) : Int).toNat * 1))) := ⟨_, rfl⟩
             obtain ⟨c29, hc29⟩ : ∃ c1, c1 = co21 - ((ji18) : Int).toNat := ⟨_, rfl⟩
             have hy29 : y187.length = x0_1.length - ((ji18) : Int).toNat := (by rw [Ny187.out, List.length_drop] <;> omega)
             rw [show (x0_1).drop ((ji18) : Int).toNat = y187 from Ny187.out.symm] at hr29
             replace hr29 : Kd.F (Kd.int .u8) _ _ A29 y187.length y187 := (by rw [hA29]; exact hr29)
             rw [← hy29, ← hA29, ← hc29] at hcut29
             have HO191 := Aside0.mk (show Kd.V (Kd.int .u8) 5 _ w.heap.size _ (.slice A29 y187.length c29) y187 from Kd.V_mk (by rw [hy29, hc29]; exact Nat.sub_le_sub_right hroom29 _) hr29)
             have HC191 := Aside0.mk (show y187.length ≤ c29 from by rw [hy29, hc29]; exact Nat.sub_le_sub_right hroom29 _)
             clear hr29 hC29 hroom29 hi029 hsz29 hc29
             have KY29 := Aside0.mk hy29
             have KA29 := Aside0.mk hA29
             clear hy29 hA29
             replace q29 := eq_true q29
             try go_wp2
             go_roundg k1
             case measure => have := HK1.out; omega
             case rel => exact ⟨(y187), (y184), H', ⟨by have := HK1.out; omega⟩, ⟨by (with_reducible repeat (first | apply Kd.V_alloc | apply Kd.V_drewN | apply Kd.V_drew)); exact Kd.V_mono HO191.out (fun _ hk => ⟨hk.1.1, hk.2⟩)⟩, ⟨by (with_reducible repeat (first | apply Kd.S_alloc | apply Kd.S_drewN | apply Kd.S_drew)); exact HO186.out⟩, ⟨by repeat (first | (with_reducible first | exact HB.out | apply below_alloc | apply pw_below_drewN | apply below_drew1) | exact HB.out)⟩⟩
            ·rw [if_neg c19] at H
             exact absurd H (by simp)
           ·rw [if_neg c17] at H
            exact absurd H (by simp)
          ·rw [if_neg c15] at H
           exact absurd H (by simp)
         ·rw [if_neg c14] at H
          exact absurd H (by simp)
        ·rw [if_neg c13] at H
         exact absurd H (by simp)
     ·rw [if_neg c4] at H
      exact absurd H (by simp)
    ·rw [if_neg c3] at H
     exact absurd H (by simp)
   ·rw [if_neg c2] at H
    have c2b0 : decide (3 ≤ (x0_1.length : Int)) = false := decide_eq_false c2
    have c2b1 : decide (3 ≤ x0_1.length) = false := decide_eq_false (by omega)
    clear c2
    by_cases c30 : (x0_1.length : Int) > 0
    ·rw [if_pos c30] at H
     have c30b0 : decide (0 < (x0_1.length : Int)) = true := decide_eq_true c30
     have c30b1 : decide (0 < x0_1.length) = true := decide_eq_true (by omega)
     clear c30
     simp only [Option.some.injEq, Prod.mk.injEq] at H
     obtain ⟨rfl, rfl⟩ := H
     obtain ⟨Ao31, co31, eo31⟩ := Kd.V_slice HO_0.out
     subst eo31
     go_wp2
     go_ret2
     exact ⟨_, by first | rfl | (simp [errW_none, errW_some] <;> rfl) | (simp [*, errW_none, errW_some] <;> rfl), by first | exact Kd.S_nil _ _ _ _ _ | exact Kd.N_nil _ _ _ _ _ | exact Kd.V_nil _ _ _ _ _ | exact Kd.Q_nil _ _ _ _ _ | exact Kd.R_nil _ _ _ _ _, by repeat (first | (with_reducible first | exact HB.out | apply below_alloc | apply pw_below_drewN | apply below_drew1) | exact HB.out)⟩
    ·rw [if_neg c30] at H
     have c30b0 : decide (0 < (x0_1.length : Int)) = false := decide_eq_false c30
     have c30b1 : decide (0 < x0_1.length) = false := decide_eq_false (by omega)
     clear c30
     replace H := Option.bind_eq_some_iff.mp H
     obtain ⟨t192, A320, H⟩ := H
     replace H : (if t192 = true then (some (x4_1, none)) else (some (([] : List (S48)), some 2))) = some (r1, r2) := H
     have A32 := Aside0.mk A320
     clear A320
     by_cases c33 : t192 = true
     ·subst c33
      have H1 : (some (x4_1, none)) = some (r1, r2) := by rw [if_pos rfl] at H; exact H
      clear H
      have H := H1
      clear H1
      simp only [Option.some.injEq, Prod.mk.injEq] at H
      obtain ⟨rfl, rfl⟩ := H
      obtain ⟨Ao34, co34, eo34⟩ := Kd.V_slice HO_0.out
      subst eo34
      obtain ⟨Ao35, co35, eo35⟩ := Kd.S_slice HO_4.out
      subst eo35
      go_wp2_with (first | (go_at_call 30; (with_reducible refine (tlv_May.calls k1 _ _ x4_1 true _ ?side1 ?side2 A32.out).mono ?_); (case side1 => repeat (first | exact (Kd.S_reads' HO_4.out).2.2 | (with_reducible refine Kd.C_alloc ?_ _) | (with_reducible refine Kd.C_drewN ?_ _) | (with_reducible refine Kd.C_drew ?_))); (case side2 => exact (Kd.S_reads' HO_4.out).2.1); rintro e w36 ⟨rfl, hb⟩; have n0_ := Aside0.mk (Kd.V_below (by (with_reducible repeat (first | apply Kd.V_alloc | apply Kd.V_drewN | apply Kd.V_drew)); exact HO_0.out) hb); have n1_ := Aside0.mk (Kd.S_below (by (with_reducible repeat (first | apply Kd.S_alloc | apply Kd.S_drewN | apply Kd.S_drew)); exact HO_4.out) hb); have n2_ := Aside0.mk (below_step (by repeat (first | (with_reducible first | exact HB.out | apply below_alloc | apply pw_below_drewN | apply below_drew1) | exact HB.out)) hb); clear HO_0; clear HO_4; clear HB; have HO_0 := n0_; have HO_4 := n1_; have HB := n2_; clear n0_ n1_ n2_; (try clear hb); (try clear hb2); (try clear hk); (try clear hi)))
      go_ret2
      exact ⟨_, by first | rfl | (simp [errW_none, errW_some] <;> rfl) | (simp [*, errW_none, errW_some] <;> rfl), by (with_reducible repeat (first | apply Kd.S_alloc | apply Kd.S_drewN | apply Kd.S_drew)); exact HO_4.out, by repeat (first | (with_reducible first | exact HB.out | apply below_alloc | apply pw_below_drewN | apply below_drew1) | exact HB.out)⟩
     ·replace c33 := Bool.eq_false_iff.mpr c33
      subst c33
      have H1 : (some (([] : List (S48)), some 2)) = some (r1, r2) := by rw [if_neg (show ¬ (false = true) by decide)] at H; exact H
      clear H
      have H := H1
      clear H1
      simp only [Option.some.injEq, Prod.mk.injEq] at H
      obtain ⟨rfl, rfl⟩ := H
      obtain ⟨Ao37, co37, eo37⟩ := Kd.V_slice HO_0.out
      subst eo37
      obtain ⟨Ao38, co38, eo38⟩ := Kd.S_slice HO_4.out
      subst eo38
      go_wp2_with (first | (go_at_call 30; (with_reducible refine (tlv_May.calls k1 _ _ x4_1 false _ ?side1 ?side2 A32.out).mono ?_); (case side1 => repeat (first | exact (Kd.S_reads' HO_4.out).2.2 | (with_reducible refine Kd.C_alloc ?_ _) | (with_reducible refine Kd.C_drewN ?_ _) | (with_reducible refine Kd.C_drew ?_))); (case side2 => exact (Kd.S_reads' HO_4.out).2.1); rintro e w39 ⟨rfl, hb⟩; have n0_ := Aside0.mk (Kd.V_below (by (with_reducible repeat (first | apply Kd.V_alloc | apply Kd.V_drewN | apply Kd.V_drew)); exact HO_0.out) hb); have n1_ := Aside0.mk (Kd.S_below (by (with_reducible repeat (first | apply Kd.S_alloc | apply Kd.S_drewN | apply Kd.S_drew)); exact HO_4.out) hb); have n2_ := Aside0.mk (below_step (by repeat (first | (with_reducible first | exact HB.out | apply below_alloc | apply pw_below_drewN | apply below_drew1) | exact HB.out)) hb); clear HO_0; clear HO_4; clear HB; have HO_0 := n0_; have HO_4 := n1_; have HB := n2_; clear n0_ n1_ n2_; (try clear hb); (try clear hb2); (try clear hk); (try clear hi)))
      go_ret2
      exact ⟨_, by first | rfl | (simp [errW_none, errW_some] <;> rfl) | (simp [*, errW_none, errW_some] <;> rfl), by first | exact Kd.S_nil _ _ _ _ _ | exact Kd.N_nil _ _ _ _ _ | exact Kd.V_nil _ _ _ _ _ | exact Kd.Q_nil _ _ _ _ _ | exact Kd.R_nil _ _ _ _ _, by repeat (first | (with_reducible first | exact HB.out | apply below_alloc | apply pw_below_drewN | apply below_drew1) | exact HB.out)⟩
theorem tlv_Get.calls (k : Nat) (A0 : Option Addr) (c0 : Nat) (l0 : List Int) (r1 : List (S48)) (r2 : Option Int) (w : World) (hr0 : Kd.C (Kd.int .u8) w A0 l0.length l0) (hc0 : l0.length ≤ c0) (h : tlv_Get.f k l0 = some (r1, r2)) :
  Calls Try.prog 25 #[.slice A0 l0.length c0] w fun e w' => ∃ v0_ : Value, e = .returned (.tuple #[v0_, errW r2]) ∧ Kd.S k48 48 w' w.heap.size (fun _ => True) v0_ r1 ∧ Below w.heap.size w w' := by
 refine (tlv_Get.callsV k _ _ _ l0 r1 r2 w (Kd.V_mk hc0 (Kd.C_F (Kd.heap_int .u8) hr0)) h).mono ?_
 rintro e w' ⟨v, he, hS, hb⟩
 exact ⟨v, he, Kd.S_mono hS (fun _ _ => trivial), hb⟩
end Go.Proofs.Ytkaeoeebagndaaa.PRevokeTells
