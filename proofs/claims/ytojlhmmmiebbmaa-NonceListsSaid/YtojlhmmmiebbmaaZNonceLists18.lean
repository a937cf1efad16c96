/- What the proof of NonceLists is made of, part 18. -/
import Derived.Test.YtojlhmmmiebbmaaZNonceLists17
namespace Go.Proofs.Ytojlhmmmiebbmaa.PNonceLists
open Go.RowKit Go.Proofs.YtojlhmmmiebbmaaW.PrintWords Go.Proofs.YtojlhmmmiebbmaaW.PrintLast Go.Proofs.YtojlhmmmiebbmaaW.PrintMore Go.Proofs.Ytojlhmmmiebbmaa.Sha Go.Proofs.Ytojlhmmmiebbmaa.Arr
attribute [local go_sem] max2_int min2_int max_two min_two max_three min_three max_four min_four
attribute [local go_sem high] u8_w
set_option linter.unusedVariables false
set_option linter.unusedSimpArgs false
set_option maxHeartbeats 8000000 in
set_option maxRecDepth 100000 in
theorem rof_calls (A0 : Option Addr) (k0 : Nat) (key : List Nat) (A1 : Option Addr) (k1 : Nat) (text : List Nat) (w : World) (hr0 : Kd.C (Kd.int .u8) w A0 (cN key).length (cN key)) (hr1 : Kd.C (Kd.int .u8) w A1 (cN text).length (cN text))
    (hb0 : Bs key) (hb1 : Bs text) (hl0 : key.length ≤ 1000000) (hl1 : text.length ≤ 30000000) :
    Calls Try.prog 41 #[.slice A0 (cN key).length k0, .slice A1 (cN text).length k1] w fun e w' => e = .returned (.agg (ints .u8 (cN (macOf key text))).toArray) ∧ Below w.heap.size w w' := by
  obtain ⟨m0, hm0⟩ : ∃ m, m = (cN key).length := ⟨_, rfl⟩
  obtain ⟨m1, hm1⟩ : ∃ m, m = (cN text).length := ⟨_, rfl⟩
  have HR0 := Aside0.mk hr0
  have HR1 := Aside0.mk hr1
  have HB := Aside0.mk (And.intro hb0 hb1)
  have HL := Aside0.mk (And.intro hl0 hl1)
  have HM := Aside0.mk (And.intro hm0 hm1)
  rw [← hm0, ← hm1]
  clear hr0 hr1 hb0 hb1 hl0 hl1 hm0 hm1
  go_enter Try.func41, Try.ntmps41
  go_upto_region 1 with (fail)
  refine wp_at (w2 := (w.alloc (.cells (ints .u8 (cN z32)).toArray 26))) rfl ?_
  have HA0 : Aside0 (Arr .u8 26 (w.alloc (.cells (ints .u8 (cN z32)).toArray 26)) w.heap.size (cN z32)) := Aside0.mk (Arr.new w .u8 _ _)
  have HB0 : Aside0 (Below w.heap.size w (w.alloc (.cells (ints .u8 (cN z32)).toArray 26))) := Aside0.mk (below_alloc (Below.refl _ _) _)
  have HS0 : Aside0 ((w.alloc (.cells (ints .u8 (cN z32)).toArray 26)).heap.size = w.heap.size + 1) := Aside0.mk (by simp)
  generalize w.alloc (.cells (ints .u8 (cN z32)).toArray 26) = w1 at *
  have HK0 : Aside0 (∀ W, Below w1.heap.size w1 W → Kd.C (Kd.int .u8) W A0 (cN key).length (cN key)) := Aside0.mk (fun W hb => Kd.C_below HR0.out (HB0.out.trans (hb.mono HB0.out.size)))
  have hw54 := block_calls A0 k0 key 54 w1 (HK0.out w1 (Below.refl _ _)) HB.out.1 (by decide) (by have := HL.out.1; omega)
  rw [← HM.out.1] at hw54
  have HW54 := Aside0.mk hw54
  clear hw54
  rename_i K0 hK0
  apply wp_region_lit
  refine Go.Great.wpList_readTo rfl (some 6) rfl (.slice A0 m0 k0) rfl ?_
  refine wpList_callR rfl (some 7) rfl 52 #[.slice A0 m0 k0, .int .u8 54] (by simp only [Act.put, List.setIfInBounds_toArray, List.set_cons_zero, List.set_cons_succ]; go_simp) _ HW54.out ?_
  rintro e w3 ⟨gb, cb, rfl, hO3, hB3⟩
  refine ⟨_, rfl, ?_⟩
  refine Go.Great.wpList_readTo rfl (some 8) rfl (.slice A1 m1 k1) rfl ?_
  simp only [Act.put, List.setIfInBounds_toArray, List.set_cons_zero, List.set_cons_succ]
  have hK54 : (cN (kx key 54)).length = 64 := by rw [cN_length, kx_length]
  have hRd : ReadsInt w3 .u8 A1 m1 (cN text) := by rw [HM.out.2]; exact reads_of .u8 (Kd.C_below HR1.out (HB0.out.trans (hB3.mono HB0.out.size)))
  refine print_append_row (w0 := w3) w1.heap.size rfl (.tmp 7) (.tmp 8) 40 5 .u8 1 rfl rfl rfl (by omega) (.slice (some ⟨gb, 0, none⟩) 64 cb) (cN (kx key 54)) (cN text) A1 m1 k1 rfl rfl (by rw [hK54]; exact hO3) hRd (Below.refl _ _) hB3.size (by rw [hK54]; have := HL.out.2; have := HM.out.2; rw [cN_length] at this; omega) ?_
  intro v4 w4 ho hb hg hat
  obtain ⟨A4, k4, rfl⟩ := own_slice ho
  have hB4 : Below w1.heap.size w1 w4 := hB3.trans hb
  have hSU := rsum_calls A4 k4 (kx key 54 ++ text) w4 (own_Cq (by rw [cN_append]; exact ho)) ((kx_bs key 54 HB.out.1 (by decide)).append HB.out.2) (by rw [List.length_append, kx_length]; have := HL.out.2; omega)
  rw [show (cN (kx key 54 ++ text)).length = (cN (kx key 54) ++ cN text).length by rw [cN_append]] at hSU
  refine wpList_callR rfl (some 10) rfl 51 #[.slice A4 (cN (kx key 54) ++ cN text).length k4] (by simp only [Act.put, List.setIfInBounds_toArray, List.set_cons_zero, List.set_cons_succ]; go_simp) _ hSU ?_
  rintro e w6 ⟨rfl, hB6⟩
  refine ⟨_, rfl, ?_⟩
  simp only [Act.put, List.setIfInBounds_toArray, List.set_cons_zero, List.set_cons_succ]
  obtain ⟨D, hDg⟩ : ∃ D, sum (kx key 54 ++ text) = D := ⟨_, rfl⟩
  have hDl0 : D.length = 32 := by rw [← hDg]; rfl
  have hDb : Bs D := by rw [← hDg]; exact sum_bs _
  rw [hDg]
  have hDl : (cN D).length = 32 := by rw [cN_length, hDl0]
  have hl1 : (ints .u8 (cN D)).length = 32 := by rw [ints_length, hDl]
  refine Go.Great.wpList_allocTo rfl (some 5) rfl _ (.cells (ints .u8 (cN z32)).toArray 26) rfl ?_
  have hA := Arr.new w6 .u8 26 (cN z32)
  have hP7 : Below w6.heap.size w6 (w6.alloc (.cells (ints .u8 (cN z32)).toArray 26)) := below_alloc (Below.refl _ _) _
  generalize w6.alloc (.cells (ints .u8 (cN z32)).toArray 26) = w7 at *
  refine wpList_store_mid rfl 26 (.tmp 5) (.tmp 10) rfl w6.heap.size 0 (ints .u8 (cN D)).toArray rfl rfl (hA.there (by rw [List.size_toArray, hl1]; rfl)) (by rw [List.size_toArray, hl1]; rfl) (all_oneCell_toArray (ints_one _ _)) ?_
  have hA2 := hA.setCells (ys := cN D) (by rw [cN_length, hDl]; rfl)
  have hP8 := below_setCells (Nat.le_refl w6.heap.size) (ints .u8 (cN D)) 0 w7 hP7
  apply wpList_nil
  refine hK0 _ _ ?_
  rw [List.toList_toArray]
  clear hA hP7 hK0 K0
  generalize w7.setCells w6.heap.size 0 (ints .u8 (cN D)) = w8 at *
  have HB8 : Aside0 (Below w1.heap.size w1 w8) := Aside0.mk ((hB4.trans (hB6.mono hB4.size)).trans (hP8.mono (Nat.le_trans hB4.size hB6.size)))
  have HA8 := Aside0.mk hA2
  have HD := Aside0.mk (And.intro hDg (And.intro hDl0 (And.intro hDl (And.intro hl1 hDb))))
  clear hB6 hDg hDl0 hDl hl1 hA2 hP8 hDb hSU ho hb hg hat hB4 hO3 hB3 hRd hK54 HW54
  generalize w6.heap.size = gd at *
  have HW92 : Aside0 (∀ W, Below w1.heap.size w1 W → Calls Try.prog 52 #[.slice A0 m0 k0, .int .u8 92] W fun e w' => ∃ g c, e = .returned (.slice (some ⟨g, 0, none⟩) 64 c) ∧ w'.ownsRow W.heap.size 5 1 (.slice (some ⟨g, 0, none⟩) 64 c) 64 (nums .u8 (cN (kx key 92))) ∧ Below W.heap.size W w') := Aside0.mk (fun W hb => by
    have h := block_calls A0 k0 key 92 W (HK0.out W hb) HB.out.1 (by decide) (by have := HL.out.1; omega)
    rw [← HM.out.1] at h
    exact h)
  have HK9 : Aside0 ((cN (kx key 92)).length = 64) := Aside0.mk (by rw [cN_length, kx_length])
  have HL9 : Aside0 (((cN (kx key 92)).length + 32) * 1 ≤ 140737488355328) := Aside0.mk (by rw [HK9.out]; decide)
  go_wp2
  refine start_ (n := 6) (S := fun w' => Below w1.heap.size w1 w' ∧ Arr .u8 26 w' gd (cN D)) (ds := [5]) #[false, false, false, false, false, false] (by kernel_rfl) rfl rfl ⟨HB8.out.drew, HA8.out.drew⟩ (fun hHeld => ?_)
  refine pure_ (i := 0) (N := some 11) (v := ?_) (a' := ?_) #[true, false, false, false, false, false] rfl rfl (by kernel_rfl) (fun _ _ _ h => h) (Or.inl ⟨by rfl, ?_⟩) ?_ ?_
  rotate_left
  · intro w'
    go_simp
    with_reducible rfl
  rotate_left
  · simp only [Act.put, List.setIfInBounds_toArray, List.set_cons_zero, List.set_cons_succ, i64_w, i32_w]
    rfl
  refine pure_ (i := 2) (N := some 13) (v := ?_) (a' := ?_) #[true, false, true, false, false, false] rfl rfl (by kernel_rfl) (fun _ _ _ h => h) (Or.inl ⟨by rfl, ?_⟩) ?_ ?_
  rotate_left
  · intro w'
    go_simp
    with_reducible rfl
  rotate_left
  · simp only [Act.put, List.setIfInBounds_toArray, List.set_cons_zero, List.set_cons_succ, i64_w, i32_w]
    rfl
  refine one_ (i := 1) (N := some 12) #[true, true, true, false, false, false] rfl rfl (by kernel_rfl) (by decide) (fun K hK => ?_)
  refine goes_ Try.func52 (by kernel_rfl) rfl #[.slice A0 m0 k0, .int .u8 92] (by rfl) rfl rfl (by simp only [List.map_toArray, List.map_cons, List.map_nil]; rfl) ?_
  with_reducible refine (HW92.out _ hHeld.1).mono ?_
  rintro e u1 ⟨gb2, cb2, rfl, hO1, hB1⟩
  refine ⟨_, rfl, ?_⟩
  refine hK.out _ _ ⟨hHeld.1.trans (hB1.mono hHeld.1.size), hHeld.2.below hB1 hHeld.2.size⟩ (fun hHeld => ?_)
  clear hK K
  refine norm_ (a' := ?_) ?_ ?_
  rotate_left
  · show Act.put _ (some 12) _ = _
    simp only [Act.put, List.setIfInBounds_toArray, List.set_cons_zero, List.set_cons_succ, i64_w, i32_w]
    rfl
  refine one_ (i := 3) (N := some 14) #[true, true, true, true, false, false] rfl rfl (by kernel_rfl) (by decide) (fun K hK => ?_)
  have hO1b := own64 HK9.out hO1
  have hRD := arr_C32 HD.out.2.2.1 hHeld.2
  refine Kd.R_append_rows_step (Kd.int .u8) (w0 := u1) (W := u1) w8.heap.size (by rfl) (.tmp 12) (.tmp 13) 40 5 (.int .u8 0) 1 rfl rfl rfl rfl (by decide) (by omega) (.slice (some ⟨gb2, 0, none⟩) 64 cb2) (cN (kx key 92)) (cN D) (some ⟨gd, 0, none⟩) 32 32 (fun _ => True) (fun _ => False) rfl rfl (Kd.R_of_own hO1b (fun _ _ => trivial)) hRD (fun _ _ h => h) (fun _ h => h.elim) (fun _ _ => trivial) (Below.refl _ _) hB1.size HL9.out ?_
  intro v2 u2 ho hb hg hat
  clear hg hat
  obtain ⟨A2, k2, rfl⟩ := own_slice (Kd.own_of_R ho)
  have hSU := rsum_calls A2 k2 (kx key 92 ++ D) u2 (own_app (Kd.own_of_R ho)) ((kx_bs key 92 HB.out.1 (by decide)).append HD.out.2.2.2.2) (by rw [List.length_append, kx_length, HD.out.2.1]; decide)
  rw [show (cN (kx key 92 ++ D)).length = (cN (kx key 92) ++ cN D).length by rw [cN_append]] at hSU
  have HSU := Aside0.mk hSU
  clear hSU ho
  refine hK.out _ _ ⟨hHeld.1.trans (hb.mono HB8.out.size), hHeld.2.below hb HA8.out.size⟩ (fun hHeld => ?_)
  clear hK K
  refine norm_ (a' := ?_) ?_ ?_
  rotate_left
  · show Act.put _ (some 14) _ = _
    simp only [Act.put, List.setIfInBounds_toArray, List.set_cons_zero, List.set_cons_succ, i64_w, i32_w]
    rfl
  refine one_ (i := 4) (N := some 15) #[true, true, true, true, true, false] rfl rfl (by kernel_rfl) (by decide) (fun K hK => ?_)
  refine goes_ Try.func51 (by kernel_rfl) rfl #[.slice A2 (cN (kx key 92) ++ cN D).length k2] (by rfl) rfl rfl (by simp only [List.map_toArray, List.map_cons, List.map_nil]; rfl) ?_
  with_reducible refine (HSU.out).mono ?_
  rintro e u3 ⟨rfl, hB3⟩
  refine ⟨_, rfl, ?_⟩
  refine hK.out _ _ ⟨hHeld.1.trans (hB3.mono hHeld.1.size), hHeld.2.below hB3 hHeld.2.size⟩ (fun hHeld => ?_)
  clear hK K
  refine norm_ (a' := ?_) ?_ ?_
  rotate_left
  · show Act.put _ (some 15) _ = _
    simp only [Act.put, List.setIfInBounds_toArray, List.set_cons_zero, List.set_cons_succ, i64_w, i32_w]
    rfl
  refine last_ (i := 5) (N := none) #[true, true, true, true, true, true] rfl rfl (by kernel_rfl) (by decide) (fun K hK => ?_)
  have hA9 := HA0.out.below hHeld.1 (by have := HS0.out; omega)
  refine skip_store (by rfl) rfl 26 (.tmp 4) (.tmp 15) rfl w.heap.size 0 (ints .u8 (cN (sum (kx key 92 ++ D)))).toArray rfl rfl (hA9.there (by rw [List.size_toArray, ints_length, sum_len32]; rfl)) (by rw [List.size_toArray, ints_length, sum_len32]; rfl) (all_oneCell_toArray (ints_one _ _)) ?_
  rw [List.toList_toArray]
  have hA10 := hA9.setCells (ys := cN (sum (kx key 92 ++ D))) (by rw [cN_length, sum_len32]; rfl)
  have hB10 := below_setCells (Nat.le_refl w.heap.size) (ints .u8 (cN (sum (kx key 92 ++ D)))) 0 u3 (HB0.out.trans (hHeld.1.mono HB0.out.size))
  generalize u3.setCells w.heap.size 0 (ints .u8 (cN (sum (kx key 92 ++ D)))) = u4 at *
  refine hK.out _ _ ?_
  clear hK K
  refine done_ (by kernel_rfl) ?_
  go_wp2
  refine bodyPost_ret (v := .agg (ints .u8 (cN (sum (kx key 92 ++ D)))).toArray) ?_ rfl ⟨by rw [macOf, HD.out.1], hB10⟩
  exact results_cell_row rfl _ _ w.heap.size 26 (ints .u8 (cN (sum (kx key 92 ++ D)))).toArray (0, 0) _ rfl hA10 rfl rfl (by rw [List.size_toArray, ints_length, sum_len32]; rfl)
end Go.Proofs.Ytojlhmmmiebbmaa.PNonceLists
