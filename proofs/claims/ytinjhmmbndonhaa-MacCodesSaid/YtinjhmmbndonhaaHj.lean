/- (*sha.Hash).Clone. -/
import Derived.Test.YtinjhmmbndonhaaHi
namespace Go.Proofs.Ytinjhmmbndonhaa.PShaSums
open Go.RowKit Go.Proofs.YtinjhmmbndonhaaW.PrintWords Go.Proofs.YtinjhmmbndonhaaW.PrintLast Go.Proofs.YtinjhmmbndonhaaW.PrintMore Go.Proofs.Ytinjhmmbndonhaa.Sha Go.Proofs.Ytinjhmmbndonhaa.Arr
attribute [local go_sem] max2_int min2_int max_two min_two max_three min_three max_four min_four
attribute [local go_sem high] u8_w
set_option linter.unusedVariables false
set_option linter.unusedSimpArgs false
theorem HashAt.drew {w : World} {g n : Nat} {s : H8} {rest : List Nat} {v : Value} (h : HashAt w g s rest n v) : HashAt w.drew g s rest n v := h.below (Below.refl _ _).drew
set_option maxHeartbeats 4000000 in
set_option maxRecDepth 100000 in
theorem clone_calls (w : World) (g n : Nat) (s : H8) (rest : List Nat) (v : Value) (h : HashAt w g s rest n v) (hl : rest.length ≤ 140737488355328) :
    Calls Try.prog 16 #[.pointer (some ⟨g, 0, none⟩)] w fun e w' => ∃ g', e = .returned (.pointer (some ⟨g', 0, none⟩)) ∧ w.heap.size ≤ g' ∧ ∃ v', HashAt w' g' s rest n v' ∧ (∀ k, v'.ownBlock = some k → w.heap.size ≤ k) ∧ Below w.heap.size w w' := by
  obtain ⟨A, c, e, hle, hC⟩ := h.slice
  obtain ⟨m, hm⟩ : ∃ m, m = (cN rest).length := ⟨_, rfl⟩
  rw [← hm] at e hle hC
  subst e
  have HH := Aside0.mk h
  have HC5 := Aside0.mk (Kd.C_below hC (below_alloc (Below.refl _ _).drew (.cells #[] 5)))
  have ho5 : (w.drew.alloc (.cells #[] 5)).ownsRow 0 5 1 (.slice (some ⟨w.heap.size, 0, none⟩) 0 0) ([] : List Int).length (nums .u8 []) := own_lit w.drew 0 5 .u8 [] (Nat.zero_le _) (by simp)
  have HO5 := Aside0.mk ho5
  have hl5 : (([] : List Int).length + m) * 1 ≤ 140737488355328 := by
    rw [hm, cN_length]
    show (0 + rest.length) * 1 ≤ _
    omega
  have HL5 := Aside0.mk hl5
  have HM := Aside0.mk hm
  clear h hl hC ho5 hl5 hle hm
  go_enter Try.func16, Try.ntmps16
  go_wp2
  refine start_ (n := 17) (S := fun w' => HashAt w' g s rest n (.slice A m c) ∧ Below w.heap.size w w' ∧ w'.cell? ⟨g, 0, none⟩ = some (.int .u32 (s.a : Nat)) ∧ w'.cell? ⟨g, 1, none⟩ = some (.int .u32 (s.b : Nat)) ∧ w'.cell? ⟨g, 2, none⟩ = some (.int .u32 (s.c : Nat)) ∧ w'.cell? ⟨g, 3, none⟩ = some (.int .u32 (s.d : Nat)) ∧ w'.cell? ⟨g, 4, none⟩ = some (.int .u32 (s.e : Nat)) ∧ w'.cell? ⟨g, 5, none⟩ = some (.int .u32 (s.f : Nat)) ∧ w'.cell? ⟨g, 6, none⟩ = some (.int .u32 (s.g : Nat)) ∧ w'.cell? ⟨g, 7, none⟩ = some (.int .u32 (s.h : Nat)) ∧ w'.cell? ⟨g, 8, none⟩ = some (.slice A m c) ∧ w'.cell? ⟨g, 9, none⟩ = some (.int .i64 (n : Int))) (ds := []) #[false, false, false, false, false, false, false, false, false, false, false, false, false, false, false, false, false] (by kernel_rfl) rfl rfl ⟨HH.out.drew, (Below.refl w.heap.size w).drew, (HH.out.drew).row.cell 0 _ rfl, (HH.out.drew).row.cell 1 _ rfl, (HH.out.drew).row.cell 2 _ rfl, (HH.out.drew).row.cell 3 _ rfl, (HH.out.drew).row.cell 4 _ rfl, (HH.out.drew).row.cell 5 _ rfl, (HH.out.drew).row.cell 6 _ rfl, (HH.out.drew).row.cell 7 _ rfl, (HH.out.drew).row.cell 8 _ rfl, (HH.out.drew).row.cell 9 _ rfl⟩ (fun hHeld => ?_)
  refine pure_ (i := 0) (N := some 3) (v := ?_) (a' := ?_) #[true, false, false, false, false, false, false, false, false, false, false, false, false, false, false, false, false] rfl rfl (by kernel_rfl) (fun _ _ _ h => h) (Or.inl ⟨by rfl, ?_⟩) ?_ ?_
  rotate_left
  · intro w'
    go_simp
    with_reducible rfl
  rotate_left
  · simp only [Act.put, List.setIfInBounds_toArray, List.set_cons_zero, List.set_cons_succ, i64_w, i32_w]
    rfl
  refine pure_ (i := 1) (N := some 4) (v := ?_) (a' := ?_) #[true, true, false, false, false, false, false, false, false, false, false, false, false, false, false, false, false] rfl rfl (by kernel_rfl) (fun _ _ _ h => h) (Or.inl ⟨by rfl, ?_⟩) ?_ ?_
  rotate_left
  · intro w'
    go_simp
    with_reducible rfl
  rotate_left
  · simp only [Act.put, List.setIfInBounds_toArray, List.set_cons_zero, List.set_cons_succ, i64_w, i32_w]
    rfl
  refine pure_ (i := 2) (N := some 5) (v := ?_) (a' := ?_) #[true, true, true, false, false, false, false, false, false, false, false, false, false, false, false, false, false] rfl rfl (by kernel_rfl) (fun _ _ _ h => h) (Or.inl ⟨by rfl, ?_⟩) ?_ ?_
  rotate_left
  · intro w'
    go_simp
    with_reducible rfl
  rotate_left
  · simp only [Act.put, List.setIfInBounds_toArray, List.set_cons_zero, List.set_cons_succ, i64_w, i32_w]
    rfl
  refine pure_ (i := 5) (N := some 8) (v := ?_) (a' := ?_) #[true, true, true, false, false, true, false, false, false, false, false, false, false, false, false, false, false] rfl rfl (by kernel_rfl) (fun _ _ _ h => h) (Or.inl ⟨by rfl, ?_⟩) ?_ ?_
  rotate_left
  · intro w'
    go_simp
    with_reducible rfl
  rotate_left
  · simp only [Act.put, List.setIfInBounds_toArray, List.set_cons_zero, List.set_cons_succ, i64_w, i32_w]
    rfl
  refine pure_ (i := 6) (N := some 9) (v := ?_) (a' := ?_) #[true, true, true, false, false, true, true, false, false, false, false, false, false, false, false, false, false] rfl rfl (by kernel_rfl) (fun _ _ _ h => h) (Or.inl ⟨by rfl, ?_⟩) ?_ ?_
  rotate_left
  · intro w'
    go_simp
    with_reducible rfl
  rotate_left
  · simp only [Act.put, List.setIfInBounds_toArray, List.set_cons_zero, List.set_cons_succ, i64_w, i32_w]
    rfl
  refine pure_ (i := 7) (N := some 10) (v := ?_) (a' := ?_) #[true, true, true, false, false, true, true, true, false, false, false, false, false, false, false, false, false] rfl rfl (by kernel_rfl) (fun _ _ _ h => h) (Or.inl ⟨by rfl, ?_⟩) ?_ ?_
  rotate_left
  · intro w'
    go_simp
    with_reducible rfl
  rotate_left
  · simp only [Act.put, List.setIfInBounds_toArray, List.set_cons_zero, List.set_cons_succ, i64_w, i32_w]
    rfl
  refine pure_ (i := 10) (N := some 13) (v := ?_) (a' := ?_) #[true, true, true, false, false, true, true, true, false, false, true, false, false, false, false, false, false] rfl rfl (by kernel_rfl) (fun _ _ _ h => h) (Or.inl ⟨by rfl, ?_⟩) ?_ ?_
  rotate_left
  · intro w'
    go_simp
    with_reducible rfl
  rotate_left
  · simp only [Act.put, List.setIfInBounds_toArray, List.set_cons_zero, List.set_cons_succ, i64_w, i32_w]
    rfl
  refine pure_ (i := 11) (N := some 14) (v := ?_) (a' := ?_) #[true, true, true, false, false, true, true, true, false, false, true, true, false, false, false, false, false] rfl rfl (by kernel_rfl) (fun _ _ _ h => h) (Or.inl ⟨by rfl, ?_⟩) ?_ ?_
  rotate_left
  · intro w'
    go_simp
    with_reducible rfl
  rotate_left
  · simp only [Act.put, List.setIfInBounds_toArray, List.set_cons_zero, List.set_cons_succ, i64_w, i32_w]
    rfl
  refine pure_ (i := 12) (N := some 15) (v := ?_) (a' := ?_) #[true, true, true, false, false, true, true, true, false, false, true, true, true, false, false, false, false] rfl rfl (by kernel_rfl) (fun _ _ _ h => h) (Or.inl ⟨by rfl, ?_⟩) ?_ ?_
  rotate_left
  · intro w'
    go_simp
    with_reducible rfl
  rotate_left
  · simp only [Act.put, List.setIfInBounds_toArray, List.set_cons_zero, List.set_cons_succ, i64_w, i32_w]
    rfl
  refine take_ (i := 3) (N := some 6) (v := ?_) (a' := ?_) #[true, true, true, true, false, true, true, true, false, false, true, true, true, false, false, false, false] rfl rfl (by kernel_rfl) (fun _ _ _ h => h) (Or.inl ⟨by rfl, ?_⟩) hHeld ?_ ?_
  rotate_left
  · rintro w' ⟨s0, s1, s2, s3, s4, s5, s6, s7, s8, s9, s10, s11⟩
    go_simp
    with_reducible rfl
  rotate_left
  · simp only [Act.put, List.setIfInBounds_toArray, List.set_cons_zero, List.set_cons_succ, i64_w, i32_w]
    rfl
  refine take_ (i := 8) (N := some 11) (v := ?_) (a' := ?_) #[true, true, true, true, false, true, true, true, true, false, true, true, true, false, false, false, false] rfl rfl (by kernel_rfl) (fun _ _ _ h => h) (Or.inl ⟨by rfl, ?_⟩) hHeld ?_ ?_
  rotate_left
  · rintro w' ⟨s0, s1, s2, s3, s4, s5, s6, s7, s8, s9, s10, s11⟩
    go_simp
    with_reducible rfl
  rotate_left
  · simp only [Act.put, List.setIfInBounds_toArray, List.set_cons_zero, List.set_cons_succ, i64_w, i32_w]
    rfl
  refine take_ (i := 13) (N := some 16) (v := ?_) (a' := ?_) #[true, true, true, true, false, true, true, true, true, false, true, true, true, true, false, false, false] rfl rfl (by kernel_rfl) (fun _ _ _ h => h) (Or.inl ⟨by rfl, ?_⟩) hHeld ?_ ?_
  rotate_left
  · rintro w' ⟨s0, s1, s2, s3, s4, s5, s6, s7, s8, s9, s10, s11⟩
    go_simp
    with_reducible rfl
  rotate_left
  · simp only [Act.put, List.setIfInBounds_toArray, List.set_cons_zero, List.set_cons_succ, i64_w, i32_w]
    rfl
  refine one_ (i := 4) (N := some 7) #[true, true, true, true, true, true, true, true, true, false, true, true, true, true, false, false, false] rfl rfl (by kernel_rfl) (by decide) (fun K hK => ?_)
  refine value_ (w1 := ?_) (v := ?_) (by rfl) rfl ?_ ?_
  rotate_left 2
  · go_simp
    constructor
    · rfl
    · rfl
  refine hK.out _ _ ⟨(hHeld.1.below (below_alloc (Below.refl _ _) _)), hHeld.2.1.alloc (Nat.le_refl _) _, ((hHeld.1.below (below_alloc (Below.refl _ _) _))).row.cell 0 _ rfl, ((hHeld.1.below (below_alloc (Below.refl _ _) _))).row.cell 1 _ rfl, ((hHeld.1.below (below_alloc (Below.refl _ _) _))).row.cell 2 _ rfl, ((hHeld.1.below (below_alloc (Below.refl _ _) _))).row.cell 3 _ rfl, ((hHeld.1.below (below_alloc (Below.refl _ _) _))).row.cell 4 _ rfl, ((hHeld.1.below (below_alloc (Below.refl _ _) _))).row.cell 5 _ rfl, ((hHeld.1.below (below_alloc (Below.refl _ _) _))).row.cell 6 _ rfl, ((hHeld.1.below (below_alloc (Below.refl _ _) _))).row.cell 7 _ rfl, ((hHeld.1.below (below_alloc (Below.refl _ _) _))).row.cell 8 _ rfl, ((hHeld.1.below (below_alloc (Below.refl _ _) _))).row.cell 9 _ rfl⟩ (fun hHeld => ?_)
  clear hK K
  refine norm_ (a' := ?_) ?_ ?_
  rotate_left
  · show Act.put _ (some 7) _ = _
    simp only [Act.put, List.setIfInBounds_toArray, List.set_cons_zero, List.set_cons_succ, i64_w, i32_w]
    rfl
  refine one_ (i := 9) (N := some 12) #[true, true, true, true, true, true, true, true, true, true, true, true, true, true, false, false, false] rfl rfl (by kernel_rfl) (by decide) (fun K hK => ?_)
  refine Kd.R_append_rows_step (Kd.int .u8) (w0 := w.drew.alloc (.cells #[] 5)) 0 (by rfl) (.tmp 7) (.tmp 11) 22 5 (.int .u8 0) 1 rfl rfl rfl rfl (by decide) (by omega) (.slice (some ⟨w.heap.size, 0, none⟩) 0 0) [] (cN rest) A m c (fun _ => True) (fun _ => False) rfl rfl (Kd.R_of_own HO5.out (fun _ _ => trivial)) HC5.out (fun _ _ h => h) (fun _ h => h.elim) (fun _ _ => trivial) (Below.refl _ _) (Nat.zero_le _) HL5.out ?_
  intro v6 w6 hR6 hb6 hg6 hat6
  clear hb6
  have ho6 := Kd.own_of_R hR6
  obtain ⟨A6, k6, ev6⟩ := own_slice ho6
  obtain ⟨m6, hm6⟩ : ∃ m6, m6 = ([] ++ cN rest).length := ⟨_, rfl⟩
  rw [← hm6] at ev6
  subst ev6
  have HB6 : Aside0 (Below w.heap.size w w6) := Aside0.mk (hHeld.2.1.grown hg6 (Nat.le_of_lt (by simp)) (fun k hk => by injection hk with hk; exact Nat.le_of_eq hk))
  have HH6 : Aside0 (HashAt w6 g s rest n (.slice A m c)) := Aside0.mk (HH.out.below HB6.out)
  have HO6 := Aside0.mk ho6
  have HAT6 := Aside0.mk hat6
  clear ho6 hat6 hg6 hR6 hm6
  refine hK.out _ _ ⟨HH6.out, HB6.out, (HH6.out).row.cell 0 _ rfl, (HH6.out).row.cell 1 _ rfl, (HH6.out).row.cell 2 _ rfl, (HH6.out).row.cell 3 _ rfl, (HH6.out).row.cell 4 _ rfl, (HH6.out).row.cell 5 _ rfl, (HH6.out).row.cell 6 _ rfl, (HH6.out).row.cell 7 _ rfl, (HH6.out).row.cell 8 _ rfl, (HH6.out).row.cell 9 _ rfl⟩ (fun hHeld => ?_)
  clear hK K
  refine norm_ (a' := ?_) ?_ ?_
  rotate_left
  · show Act.put _ (some 12) _ = _
    simp only [Act.put, List.setIfInBounds_toArray, List.set_cons_zero, List.set_cons_succ, i64_w, i32_w]
    rfl
  refine pure_ (i := 14) (N := some 17) (v := ?_) (a' := ?_) #[true, true, true, true, true, true, true, true, true, true, true, true, true, true, true, false, false] rfl rfl (by kernel_rfl) (fun _ _ _ h => h) (Or.inl ⟨by rfl, ?_⟩) ?_ ?_
  rotate_left
  · intro w'
    go_simp
    with_reducible rfl
  rotate_left
  · simp only [Act.put, List.setIfInBounds_toArray, List.set_cons_zero, List.set_cons_succ, i64_w, i32_w]
    rfl
  refine one_ (i := 15) (N := some 18) #[true, true, true, true, true, true, true, true, true, true, true, true, true, true, true, true, false] rfl rfl (by kernel_rfl) (by decide) (fun K hK => ?_)
  refine value_ (w1 := ?_) (v := ?_) (by rfl) rfl ?_ ?_
  rotate_left 2
  · go_simp
    constructor
    · rfl
    · rfl
  refine hK.out _ _ ⟨(hHeld.1.below (below_alloc (Below.refl _ _) _)), hHeld.2.1.alloc hHeld.2.1.size _, ((hHeld.1.below (below_alloc (Below.refl _ _) _))).row.cell 0 _ rfl, ((hHeld.1.below (below_alloc (Below.refl _ _) _))).row.cell 1 _ rfl, ((hHeld.1.below (below_alloc (Below.refl _ _) _))).row.cell 2 _ rfl, ((hHeld.1.below (below_alloc (Below.refl _ _) _))).row.cell 3 _ rfl, ((hHeld.1.below (below_alloc (Below.refl _ _) _))).row.cell 4 _ rfl, ((hHeld.1.below (below_alloc (Below.refl _ _) _))).row.cell 5 _ rfl, ((hHeld.1.below (below_alloc (Below.refl _ _) _))).row.cell 6 _ rfl, ((hHeld.1.below (below_alloc (Below.refl _ _) _))).row.cell 7 _ rfl, ((hHeld.1.below (below_alloc (Below.refl _ _) _))).row.cell 8 _ rfl, ((hHeld.1.below (below_alloc (Below.refl _ _) _))).row.cell 9 _ rfl⟩ (fun hHeld => ?_)
  clear hK K
  refine norm_ (a' := ?_) ?_ ?_
  rotate_left
  · show Act.put _ (some 18) _ = _
    simp only [Act.put, List.setIfInBounds_toArray, List.set_cons_zero, List.set_cons_succ, i64_w, i32_w]
    rfl
  refine pure_ (i := 16) (N := some 2) (v := ?_) (a' := ?_) #[true, true, true, true, true, true, true, true, true, true, true, true, true, true, true, true, true] rfl rfl (by kernel_rfl) (fun _ _ _ h => h) (Or.inl ⟨by rfl, ?_⟩) ?_ ?_
  rotate_left
  · intro w'
    go_simp
    with_reducible rfl
  rotate_left
  · simp only [Act.put, List.setIfInBounds_toArray, List.set_cons_zero, List.set_cons_succ, i64_w, i32_w]
    rfl
  refine done_ (by kernel_rfl) ?_
  clear hHeld
  have hnew : HashAt (w6.alloc (.cells (ints .u32 (cN s.list) ++ [Value.slice A6 m6 k6, Value.int .i64 (n : Int)] : List Value).toArray 50)) w6.heap.size s rest n (.slice A6 m6 k6) :=
    ⟨Row.new w6 _ _, pw_own_below HO6.out (below_alloc (Below.refl _ _) _), HH.out.ok, HH.out.bytes⟩
  have hfr : ∀ k, (Value.slice A6 m6 k6).ownBlock = some k → w.heap.size ≤ k := by
    intro k hk
    rcases HAT6.out with e | ⟨b, e, hb⟩
    · rw [e] at hk
      injection hk with hk
      exact Nat.le_of_eq hk
    · rw [e] at hk
      injection hk with hk
      subst hk
      have hb2 : w.heap.size + 1 ≤ b := by simpa using hb
      omega
  have HN := Aside0.mk hnew
  have HF := Aside0.mk hfr
  clear hnew hfr
  go_wp2
  refine bodyPost_ret (results_tmp rfl _ _ _) rfl ⟨w6.heap.size, rfl, HB6.out.size, _, HN.out, HF.out, HB6.out.alloc HB6.out.size _⟩
end Go.Proofs.Ytinjhmmbndonhaa.PShaSums

