/- The document's Sub, In, Cut, Mul modulo m. -/
import Derived.Test.YtojjbcjndgekmaaFj
namespace Go.Proofs.Ytojjbcjndgekmaa
open Go.RowKit Go.Proofs.Ytojjbcjndgekmaa.Arr Go.Proofs.YtojjbcjndgekmaaW.PrintWords Go.Proofs.YtojjbcjndgekmaaW.PrintLast Go.Proofs.YtojjbcjndgekmaaW.PrintMore
set_option linter.unusedVariables false
set_option linter.unusedSimpArgs false
set_option maxRecDepth 100000 in
set_option maxHeartbeats 8000000 in
/-- clapperref02.Sub -/
theorem rsub_calls (a b m : Nat) (w : World) (hm : m < N256) (ha : a < m) (hb : b < m) :
    Calls Try.prog 22 #[numV a, numV b, numV m] w fun e w' => e = .returned (numV ((a + m - b) % m)) ∧ Below w.heap.size w w' := by
  have HSP := Aside0.mk (fits_dif ha hb hm)
  have HL := Aside0.mk (fun u => less_calls (IsNum.mk (Nat.lt_trans ha hm)) (IsNum.mk (Nat.lt_trans hb hm)) u)
  have HC := Aside0.mk (fun u => minus_calls (IsNum.mk (Nat.lt_trans ha hm)) (IsNum.mk (Nat.lt_trans hb hm)) u)
  obtain ⟨n, hn⟩ : ∃ n, n = (a + N256 - b) % N256 := ⟨_, rfl⟩
  have hnN : n < N256 := by rw [hn]; exact Nat.mod_lt _ N256_pos
  obtain ⟨D, hD⟩ : ∃ D, D = decide (a < b) := ⟨_, rfl⟩
  rw [← hn] at HC HSP
  rw [← hD] at HL
  have HP := Aside0.mk (fun u => plus_calls (IsNum.mk hnN) (IsNum.mk hm) u)
  obtain ⟨p, hp⟩ : ∃ p, p = (n + m) % N256 := ⟨_, rfl⟩
  rw [← hp] at HP HSP
  generalize decide (N256 ≤ n + m) = E at *
  generalize (a + m - b) % m = r at *
  have F1 : Aside0 (D = true → p = r) := Aside0.mk (fun h => HSP.out.1 (by rw [h] at hD; simpa using hD.symm))
  have F2 : Aside0 (D = false → n = r) := Aside0.mk (fun h => HSP.out.2 (by rw [h] at hD; simpa using hD.symm))
  clear hn hD hnN HSP hm ha hb hp
  rw [numV_def a, numV_def b, numV_def m]
  go_enter Try.func22, Try.ntmps22
  go_upto_region 1 with (fail)
  refine wp_at (w2 := (World.alloc (World.alloc (World.alloc (World.alloc w (.cells (nw a).toArray 24)) (.cells (nw b).toArray 24)) (.cells (nw m).toArray 24)) (.cells (nw 0).toArray 24))) rfl ?_
  obtain ⟨x_0, e_0, h_0, b_0, s_0⟩ := new_num w a
  obtain ⟨x_1, e_1, h_1, b_1, s_1⟩ := new_num x_0 b
  obtain ⟨x_2, e_2, h_2, b_2, s_2⟩ := new_num x_1 m
  obtain ⟨x_3, e_3, h_3, b_3, s_3⟩ := new_num x_2 0
  rw [e_0, e_1, e_2, e_3]
  rw [s_0] at h_1 s_1
  rw [s_1] at h_2 s_2
  rw [s_2] at h_3 s_3
  have HB : Aside0 (Below w.heap.size w x_3) := Aside0.mk (bl_both (bl_both (bl_both b_0 b_1) b_2) b_3)
  have HA : Aside0 (NAt x_3 (w.heap.size) a) := Aside0.mk (((h_0.on b_1).on b_2).on b_3)
  have HB2 : Aside0 (NAt x_3 (w.heap.size + 1) b) := Aside0.mk ((h_1.on b_2).on b_3)
  have HM : Aside0 (NAt x_3 (w.heap.size + 1 + 1) m) := Aside0.mk (h_2.on b_3)
  have HO : Aside0 (NAt x_3 (w.heap.size + 1 + 1 + 1) 0) := Aside0.mk h_3
  have HS : Aside0 (w.heap.size + 1 + 1 + 1 + 1 ≤ x_3.heap.size) := Aside0.mk (Nat.le_of_eq s_3.symm)
  clear e_0 h_0 b_0 s_0 e_1 h_1 b_1 s_1 e_2 h_2 b_2 s_2 e_3 h_3 b_3 s_3
  obtain ⟨w1, hw_⟩ : ∃ x, x = x_3 := ⟨_, rfl⟩
  subst hw_
  clear x_0 x_1 x_2
  cases D with
  | false =>
    have E2 : n = r := F2.out rfl
    subst E2
    clear F1 F2 HP
    go_wp2_with (first | ((with_reducible refine gate_dst (N := 9) rfl ?_); refine ld_num (HA.out.range) rfl _ rfl rfl ?_) | ((with_reducible refine gate_dst (N := 10) rfl ?_); refine ld_num (HB2.out.range) rfl _ rfl rfl ?_) | ((with_reducible refine gate_callee (f := 34) rfl ?_); refine goesL_ (some 11) rfl rfl Try.func34 (by kernel_rfl) rfl #[numV a, numV b] rfl (by (try simp only [List.map_toArray, List.map_cons, List.map_nil]); first | done | rfl) ?_; (with_reducible refine (HL.out _).mono ?_); rintro e u1 ⟨rfl, hb1⟩; replace HA := Aside0.mk (HA.out.on hb1); replace HB2 := Aside0.mk (HB2.out.on hb1); replace HM := Aside0.mk (HM.out.on hb1); replace HO := Aside0.mk (HO.out.on hb1); replace HB := Aside0.mk (bl_on HB.out hb1 HB.out.size); replace HS := Aside0.mk (Nat.le_trans HS.out hb1.size); clear hb1; refine ⟨_, rfl, ?_⟩) | ((with_reducible refine gate_dst (N := 21) rfl ?_); refine ld_num (HA.out.range) rfl _ rfl rfl ?_) | ((with_reducible refine gate_dst (N := 22) rfl ?_); refine ld_num (HB2.out.range) rfl _ rfl rfl ?_) | ((with_reducible refine gate_callee (f := 35) rfl ?_); refine goesL_ (some 23) rfl rfl Try.func35 (by kernel_rfl) rfl #[numV a, numV b] rfl (by (try simp only [List.map_toArray, List.map_cons, List.map_nil]); first | done | rfl) ?_; (with_reducible refine (HC.out _).mono ?_); rintro e u2 ⟨rfl, hb2⟩; replace HA := Aside0.mk (HA.out.on hb2); replace HB2 := Aside0.mk (HB2.out.on hb2); replace HM := Aside0.mk (HM.out.on hb2); replace HO := Aside0.mk (HO.out.on hb2); replace HB := Aside0.mk (bl_on HB.out hb2 HB.out.size); replace HS := Aside0.mk (Nat.le_trans HS.out hb2.size); clear hb2; refine ⟨_, rfl, ?_⟩) | ((with_reducible refine gate_st (y := .tmp 23) rfl ?_); refine st_num (HO.out) rfl _ _ rfl rfl rfl ?_; intro u3 hA3 hT3; replace HA := Aside0.mk (HA.out.but hT3 (by omega)); replace HB2 := Aside0.mk (HB2.out.but hT3 (by omega)); replace HM := Aside0.mk (HM.out.but hT3 (by omega)); replace HO := Aside0.mk hA3; replace HB := Aside0.mk (bl_but HB.out hT3 HB.out.size (by omega)); replace HS := Aside0.mk (Nat.le_trans HS.out hT3.size); clear hA3 hT3))
    exact bodyPost_ret (v := numV n) (results_nat rfl rfl HO.out) rfl ⟨rfl, HB.out⟩
  | true =>
    have E2 : p = r := F1.out rfl
    subst E2
    clear F1 F2
    go_wp2_with (first | ((with_reducible refine gate_dst (N := 9) rfl ?_); refine ld_num (HA.out.range) rfl _ rfl rfl ?_) | ((with_reducible refine gate_dst (N := 10) rfl ?_); refine ld_num (HB2.out.range) rfl _ rfl rfl ?_) | ((with_reducible refine gate_callee (f := 34) rfl ?_); refine goesL_ (some 11) rfl rfl Try.func34 (by kernel_rfl) rfl #[numV a, numV b] rfl (by (try simp only [List.map_toArray, List.map_cons, List.map_nil]); first | done | rfl) ?_; (with_reducible refine (HL.out _).mono ?_); rintro e u1 ⟨rfl, hb1⟩; replace HA := Aside0.mk (HA.out.on hb1); replace HB2 := Aside0.mk (HB2.out.on hb1); replace HM := Aside0.mk (HM.out.on hb1); replace HO := Aside0.mk (HO.out.on hb1); replace HB := Aside0.mk (bl_on HB.out hb1 HB.out.size); replace HS := Aside0.mk (Nat.le_trans HS.out hb1.size); clear hb1; refine ⟨_, rfl, ?_⟩))
    obtain ⟨u0, hu⟩ : ∃ x, x = u1 := ⟨_, rfl⟩
    subst hu
    refine start_ (n := 11) (S := fun w' => Below u0.heap.size u0 w') (ds := [9]) #[false, false, false, false, false, false, false, false, false, false, false] (by kernel_rfl) rfl rfl ((Below.refl _ _).drew) (fun hHeld => ?_)
    refine take_ (i := 0) (N := some 13) (a' := ?_) #[true, false, false, false, false, false, false, false, false, false, false] rfl rfl (by kernel_rfl) (fun _ _ _ h => h) (yields_num (g := w.heap.size) (o := 0) (n := a) (by rfl) (.tmp 3) rfl rfl (fun w' hS => (HA.out.below hS HA.out.size).range)) hHeld ?_ ?_
    rotate_left
    · simp only [Act.put, List.setIfInBounds_toArray, List.set_cons_zero, List.set_cons_succ, i64_w, i32_w]
      rfl
    refine take_ (i := 1) (N := some 14) (a' := ?_) #[true, true, false, false, false, false, false, false, false, false, false] rfl rfl (by kernel_rfl) (fun _ _ _ h => h) (yields_num (g := w.heap.size + 1) (o := 0) (n := b) (by rfl) (.tmp 4) rfl rfl (fun w' hS => (HB2.out.below hS HB2.out.size).range)) hHeld ?_ ?_
    rotate_left
    · simp only [Act.put, List.setIfInBounds_toArray, List.set_cons_zero, List.set_cons_succ, i64_w, i32_w]
      rfl
    refine take_ (i := 3) (N := some 16) (a' := ?_) #[true, true, false, true, false, false, false, false, false, false, false] rfl rfl (by kernel_rfl) (fun _ _ _ h => h) (yields_num (g := w.heap.size + 1 + 1) (o := 0) (n := m) (by rfl) (.tmp 5) rfl rfl (fun w' hS => (HM.out.below hS HM.out.size).range)) hHeld ?_ ?_
    rotate_left
    · simp only [Act.put, List.setIfInBounds_toArray, List.set_cons_zero, List.set_cons_succ, i64_w, i32_w]
      rfl
    refine join_ (σ := Nat) 2 #[true, true, true, true, true, true, true, true, true, false, false] (fun s => [(7, .pointer (some ⟨s, 0, none⟩)), (15, numV n), (17, .tuple #[numV p, .bool E]), (12, .tuple #[numV p, .bool E]), (18, numV p), (19, .bool E)]) (fun s w' => Below u0.heap.size u0 w' ∧ NAt w' s 0 ∧ u0.heap.size ≤ s) ?_ ?_
    rotate_left
    · intro hCont
      refine two_ (i := 2) (j := 8) (Ni := some 15) (Nj := some 7) #[true, true, true, true, false, false, false, false, false, false, false] #[true, true, false, true, false, false, false, false, true, false, false] rfl rfl rfl rfl (by kernel_rfl) (by decide) (by decide) (fun K hK => ?_) (fun K hK => ?_)
      · skip
        refine goes_ Try.func35 (by kernel_rfl) rfl #[numV a, numV b] (by rfl) rfl rfl (by simp only [List.map_toArray, List.map_cons, List.map_nil]; rfl) ?_
        with_reducible refine (HC.out _).mono ?_
        rintro e v1 ⟨rfl, hb_v1⟩
        refine ⟨_, rfl, ?_⟩
        refine hK.out _ _ (bl_on hHeld hb_v1 hHeld.size) (fun hHeld => ?_)
        clear hK K
        refine norm_ (a' := ?_) ?_ ?_
        rotate_left
        · show Act.put _ (some 15) _ = _
          simp only [Act.put, List.setIfInBounds_toArray, List.set_cons_zero, List.set_cons_succ, i64_w, i32_w]
          rfl
        refine two_ (i := 4) (j := 8) (Ni := some 17) (Nj := some 7) #[true, true, true, true, true, false, false, false, false, false, false] #[true, true, true, true, false, false, false, false, true, false, false] rfl rfl rfl rfl (by kernel_rfl) (by decide) (by decide) (fun K hK => ?_) (fun K hK => ?_)
        · skip
          refine goes_ Try.func38 (by kernel_rfl) rfl #[numV n, numV m] (by rfl) rfl rfl (by simp only [List.map_toArray, List.map_cons, List.map_nil]; rfl) ?_
          with_reducible refine (HP.out _).mono ?_
          rintro e v2 ⟨rfl, hb_v2⟩
          refine ⟨_, rfl, ?_⟩
          refine hK.out _ _ (bl_on hHeld hb_v2 hHeld.size) (fun hHeld => ?_)
          clear hK K
          refine norm_ (a' := ?_) ?_ ?_
          rotate_left
          · show Act.put _ (some 17) _ = _
            simp only [Act.put, List.setIfInBounds_toArray, List.set_cons_zero, List.set_cons_succ, i64_w, i32_w]
            rfl
          refine pure_ (i := 5) (N := some 12) (v := ?_) (a' := ?_) #[true, true, true, true, true, true, false, false, false, false, false] rfl rfl (by kernel_rfl) (fun _ _ _ h => h) (Or.inl ⟨by rfl, ?_⟩) ?_ ?_
          rotate_left
          · intro w'
            go_simp
            with_reducible rfl
          rotate_left
          · simp only [Act.put, List.setIfInBounds_toArray, List.set_cons_zero, List.set_cons_succ, i64_w, i32_w]
            rfl
          refine pure_ (i := 6) (N := some 18) (v := ?_) (a' := ?_) #[true, true, true, true, true, true, true, false, false, false, false] rfl rfl (by kernel_rfl) (fun _ _ _ h => h) (Or.inl ⟨by rfl, ?_⟩) ?_ ?_
          rotate_left
          · intro w'
            go_simp
            with_reducible rfl
          rotate_left
          · simp only [Act.put, List.setIfInBounds_toArray, List.set_cons_zero, List.set_cons_succ, i64_w, i32_w]
            rfl
          refine pure_ (i := 7) (N := some 19) (v := ?_) (a' := ?_) #[true, true, true, true, true, true, true, true, false, false, false] rfl rfl (by kernel_rfl) (fun _ _ _ h => h) (Or.inl ⟨by rfl, ?_⟩) ?_ ?_
          rotate_left
          · intro w'
            go_simp
            with_reducible rfl
          rotate_left
          · simp only [Act.put, List.setIfInBounds_toArray, List.set_cons_zero, List.set_cons_succ, i64_w, i32_w]
            rfl
          refine one_ (i := 8) (N := some 7) #[true, true, true, true, true, true, true, true, true, false, false] rfl rfl (by kernel_rfl) (by decide) (fun K hK => ?_)
          refine value_ (w1 := ?_) (v := ?_) (by rfl) rfl ?_ ?_
          rotate_left 2
          · go_simp
            constructor
            · rfl
            · rfl
          have hz : NAt (World.alloc v2 (.cells (nw 0).toArray 24)) (v2).heap.size 0 := Row.new v2 _ (nw 0)
          have hs : u0.heap.size ≤ (v2).heap.size := hHeld.size
          refine hK.out _ _ (below_alloc hHeld _) (fun hHeld => ?_)
          clear hK K
          refine norm_ (a' := ?_) ?_ ?_
          rotate_left
          · show Act.put _ (some 7) _ = _
            simp only [Act.put, List.setIfInBounds_toArray, List.set_cons_zero, List.set_cons_succ, i64_w, i32_w]
            rfl
          exact norm_ (by simp only [putAll, Act.put, List.setIfInBounds_toArray, List.set_cons_zero, List.set_cons_succ]) (hCont (v2).heap.size _ ⟨hHeld, hz, hs⟩)
        · skip
          refine value_ (w1 := ?_) (v := ?_) (by rfl) rfl ?_ ?_
          rotate_left 2
          · go_simp
            constructor
            · rfl
            · rfl
          have hz : NAt (World.alloc v1 (.cells (nw 0).toArray 24)) (v1).heap.size 0 := Row.new v1 _ (nw 0)
          have hs : u0.heap.size ≤ (v1).heap.size := hHeld.size
          refine hK.out _ _ (below_alloc hHeld _) (fun hHeld => ?_)
          clear hK K
          refine norm_ (a' := ?_) ?_ ?_
          rotate_left
          · show Act.put _ (some 7) _ = _
            simp only [Act.put, List.setIfInBounds_toArray, List.set_cons_zero, List.set_cons_succ, i64_w, i32_w]
            rfl
          refine one_ (i := 4) (N := some 17) #[true, true, true, true, true, false, false, false, true, false, false] rfl rfl (by kernel_rfl) (by decide) (fun K hK => ?_)
          refine goes_ Try.func38 (by kernel_rfl) rfl #[numV n, numV m] (by rfl) rfl rfl (by simp only [List.map_toArray, List.map_cons, List.map_nil]; rfl) ?_
          with_reducible refine (HP.out _).mono ?_
          rintro e v2 ⟨rfl, hb_v2⟩
          refine ⟨_, rfl, ?_⟩
          replace hz := hz.on hb_v2
          refine hK.out _ _ (bl_on hHeld hb_v2 hHeld.size) (fun hHeld => ?_)
          clear hK K
          refine norm_ (a' := ?_) ?_ ?_
          rotate_left
          · show Act.put _ (some 17) _ = _
            simp only [Act.put, List.setIfInBounds_toArray, List.set_cons_zero, List.set_cons_succ, i64_w, i32_w]
            rfl
          refine pure_ (i := 5) (N := some 12) (v := ?_) (a' := ?_) #[true, true, true, true, true, true, false, false, true, false, false] rfl rfl (by kernel_rfl) (fun _ _ _ h => h) (Or.inl ⟨by rfl, ?_⟩) ?_ ?_
          rotate_left
          · intro w'
            go_simp
            with_reducible rfl
          rotate_left
          · simp only [Act.put, List.setIfInBounds_toArray, List.set_cons_zero, List.set_cons_succ, i64_w, i32_w]
            rfl
          refine pure_ (i := 6) (N := some 18) (v := ?_) (a' := ?_) #[true, true, true, true, true, true, true, false, true, false, false] rfl rfl (by kernel_rfl) (fun _ _ _ h => h) (Or.inl ⟨by rfl, ?_⟩) ?_ ?_
          rotate_left
          · intro w'
            go_simp
            with_reducible rfl
          rotate_left
          · simp only [Act.put, List.setIfInBounds_toArray, List.set_cons_zero, List.set_cons_succ, i64_w, i32_w]
            rfl
          refine pure_ (i := 7) (N := some 19) (v := ?_) (a' := ?_) #[true, true, true, true, true, true, true, true, true, false, false] rfl rfl (by kernel_rfl) (fun _ _ _ h => h) (Or.inl ⟨by rfl, ?_⟩) ?_ ?_
          rotate_left
          · intro w'
            go_simp
            with_reducible rfl
          rotate_left
          · simp only [Act.put, List.setIfInBounds_toArray, List.set_cons_zero, List.set_cons_succ, i64_w, i32_w]
            rfl
          exact norm_ (by simp only [putAll, Act.put, List.setIfInBounds_toArray, List.set_cons_zero, List.set_cons_succ]) (hCont (v1).heap.size _ ⟨hHeld, hz, hs⟩)
      · skip
        refine value_ (w1 := ?_) (v := ?_) (by rfl) rfl ?_ ?_
        rotate_left 2
        · go_simp
          constructor
          · rfl
          · rfl
        have hz : NAt (World.alloc (World.drew u0) (.cells (nw 0).toArray 24)) ((World.drew u0)).heap.size 0 := Row.new (World.drew u0) _ (nw 0)
        have hs : u0.heap.size ≤ ((World.drew u0)).heap.size := hHeld.size
        refine hK.out _ _ (below_alloc hHeld _) (fun hHeld => ?_)
        clear hK K
        refine norm_ (a' := ?_) ?_ ?_
        rotate_left
        · show Act.put _ (some 7) _ = _
          simp only [Act.put, List.setIfInBounds_toArray, List.set_cons_zero, List.set_cons_succ, i64_w, i32_w]
          rfl
        refine one_ (i := 2) (N := some 15) #[true, true, true, true, false, false, false, false, true, false, false] rfl rfl (by kernel_rfl) (by decide) (fun K hK => ?_)
        refine goes_ Try.func35 (by kernel_rfl) rfl #[numV a, numV b] (by rfl) rfl rfl (by simp only [List.map_toArray, List.map_cons, List.map_nil]; rfl) ?_
        with_reducible refine (HC.out _).mono ?_
        rintro e v1 ⟨rfl, hb_v1⟩
        refine ⟨_, rfl, ?_⟩
        replace hz := hz.on hb_v1
        refine hK.out _ _ (bl_on hHeld hb_v1 hHeld.size) (fun hHeld => ?_)
        clear hK K
        refine norm_ (a' := ?_) ?_ ?_
        rotate_left
        · show Act.put _ (some 15) _ = _
          simp only [Act.put, List.setIfInBounds_toArray, List.set_cons_zero, List.set_cons_succ, i64_w, i32_w]
          rfl
        refine one_ (i := 4) (N := some 17) #[true, true, true, true, true, false, false, false, true, false, false] rfl rfl (by kernel_rfl) (by decide) (fun K hK => ?_)
        refine goes_ Try.func38 (by kernel_rfl) rfl #[numV n, numV m] (by rfl) rfl rfl (by simp only [List.map_toArray, List.map_cons, List.map_nil]; rfl) ?_
        with_reducible refine (HP.out _).mono ?_
        rintro e v2 ⟨rfl, hb_v2⟩
        refine ⟨_, rfl, ?_⟩
        replace hz := hz.on hb_v2
        refine hK.out _ _ (bl_on hHeld hb_v2 hHeld.size) (fun hHeld => ?_)
        clear hK K
        refine norm_ (a' := ?_) ?_ ?_
        rotate_left
        · show Act.put _ (some 17) _ = _
          simp only [Act.put, List.setIfInBounds_toArray, List.set_cons_zero, List.set_cons_succ, i64_w, i32_w]
          rfl
        refine pure_ (i := 5) (N := some 12) (v := ?_) (a' := ?_) #[true, true, true, true, true, true, false, false, true, false, false] rfl rfl (by kernel_rfl) (fun _ _ _ h => h) (Or.inl ⟨by rfl, ?_⟩) ?_ ?_
        rotate_left
        · intro w'
          go_simp
          with_reducible rfl
        rotate_left
        · simp only [Act.put, List.setIfInBounds_toArray, List.set_cons_zero, List.set_cons_succ, i64_w, i32_w]
          rfl
        refine pure_ (i := 6) (N := some 18) (v := ?_) (a' := ?_) #[true, true, true, true, true, true, true, false, true, false, false] rfl rfl (by kernel_rfl) (fun _ _ _ h => h) (Or.inl ⟨by rfl, ?_⟩) ?_ ?_
        rotate_left
        · intro w'
          go_simp
          with_reducible rfl
        rotate_left
        · simp only [Act.put, List.setIfInBounds_toArray, List.set_cons_zero, List.set_cons_succ, i64_w, i32_w]
          rfl
        refine pure_ (i := 7) (N := some 19) (v := ?_) (a' := ?_) #[true, true, true, true, true, true, true, true, true, false, false] rfl rfl (by kernel_rfl) (fun _ _ _ h => h) (Or.inl ⟨by rfl, ?_⟩) ?_ ?_
        rotate_left
        · intro w'
          go_simp
          with_reducible rfl
        rotate_left
        · simp only [Act.put, List.setIfInBounds_toArray, List.set_cons_zero, List.set_cons_succ, i64_w, i32_w]
          rfl
        exact norm_ (by simp only [putAll, Act.put, List.setIfInBounds_toArray, List.set_cons_zero, List.set_cons_succ]) (hCont u0.heap.size _ ⟨hHeld, hz, hs⟩)
    rintro g7 w5 ⟨hHeld, hz, hs⟩
    refine norm_ (a' := ?_) ?_ ?_
    rotate_left
    · simp only [putAll, Act.put, List.setIfInBounds_toArray, List.set_cons_zero, List.set_cons_succ]
      rfl
    refine last_ (i := 9) (N := none) #[true, true, true, true, true, true, true, true, true, true, false] rfl rfl (by kernel_rfl) (by decide) (fun K hK => ?_)
    refine skip_num hz (by rfl) rfl (.tmp 7) (.tmp 18) rfl rfl rfl ?_
    intro u6 hA6 hT6
    refine hK.out _ _ ?_
    clear hK K
    refine pure_ (i := 10) (N := some 8) (v := ?_) (a' := ?_) #[true, true, true, true, true, true, true, true, true, true, true] rfl rfl (by kernel_rfl) (fun _ _ _ h => h) (Or.inl ⟨by rfl, ?_⟩) ?_ ?_
    rotate_left
    · intro w'
      go_simp
      with_reducible rfl
    rotate_left
    · simp only [Act.put, List.setIfInBounds_toArray, List.set_cons_zero, List.set_cons_succ, i64_w, i32_w]
      rfl
    refine done_ (by kernel_rfl) ?_
    have HXg7 : Aside0 (w.heap.size + 1 + 1 + 1 + 1 ≤ g7) := Aside0.mk (Nat.le_trans HS.out hs)
    have HN := Aside0.mk hz
    replace HA := Aside0.mk (HA.out.on hHeld)
    replace HB2 := Aside0.mk (HB2.out.on hHeld)
    replace HM := Aside0.mk (HM.out.on hHeld)
    replace HO := Aside0.mk (HO.out.on hHeld)
    replace HB := Aside0.mk (bl_on HB.out hHeld HB.out.size)
    replace HS := Aside0.mk (Nat.le_trans HS.out hHeld.size)
    clear hHeld hs hz
    replace HA := Aside0.mk (HA.out.but hT6 (by have := HXg7.out; omega))
    replace HB2 := Aside0.mk (HB2.out.but hT6 (by have := HXg7.out; omega))
    replace HM := Aside0.mk (HM.out.but hT6 (by have := HXg7.out; omega))
    replace HO := Aside0.mk (HO.out.but hT6 (by have := HXg7.out; omega))
    replace HN := Aside0.mk hA6
    replace HB := Aside0.mk (bl_but HB.out hT6 HB.out.size (by have := HXg7.out; omega))
    replace HS := Aside0.mk (Nat.le_trans HS.out hT6.size)
    clear hA6 hT6
    go_wp2_with (first | ((with_reducible refine gate_dst (N := 20) rfl ?_); refine ld_num (HN.out.range) rfl _ rfl rfl ?_) | ((with_reducible refine gate_st (y := .tmp 20) rfl ?_); refine st_num (HO.out) rfl _ _ rfl rfl rfl ?_; intro u9 hA9 hT9; replace HA := Aside0.mk (HA.out.but hT9 (by have := HXg7.out; omega)); replace HB2 := Aside0.mk (HB2.out.but hT9 (by have := HXg7.out; omega)); replace HM := Aside0.mk (HM.out.but hT9 (by have := HXg7.out; omega)); replace HN := Aside0.mk (HN.out.but hT9 (by have := HXg7.out; omega)); replace HO := Aside0.mk hA9; replace HB := Aside0.mk (bl_but HB.out hT9 HB.out.size (by omega)); replace HS := Aside0.mk (Nat.le_trans HS.out hT9.size); clear hA9 hT9))
    exact bodyPost_ret (v := numV p) (results_nat rfl rfl HO.out) rfl ⟨rfl, HB.out⟩
set_option maxRecDepth 100000 in
set_option maxHeartbeats 8000000 in
/-- clapperref02.In, of a number below m -/
theorem rin_lt (a m : Nat) (w : World) (hm : m < N256) (ha : a < m) :
    Calls Try.prog 15 #[numV a, numV m] w fun e w' => e = .returned (numV a) ∧ Below w.heap.size w w' := by
  have HL := Aside0.mk (fun u => less_calls (IsNum.mk (Nat.lt_trans ha hm)) (IsNum.mk hm) u)
  rw [decide_eq_true ha] at HL
  clear hm ha
  obtain ⟨va, hva⟩ : ∃ v, v = numV a := ⟨_, rfl⟩
  rw [numV_def a, numV_def m]
  go_enter Try.func15, Try.ntmps15
  go_upto_region 1 with (fail)
  refine wp_at (w2 := (World.alloc (World.alloc (World.alloc w (.cells (nw a).toArray 24)) (.cells (nw m).toArray 24)) (.cells (nw 0).toArray 24))) rfl ?_
  obtain ⟨x_0, e_0, h_0, b_0, s_0⟩ := new_num w a
  obtain ⟨x_1, e_1, h_1, b_1, s_1⟩ := new_num x_0 m
  obtain ⟨x_2, e_2, h_2, b_2, s_2⟩ := new_num x_1 0
  rw [e_0, e_1, e_2]
  rw [s_0] at h_1 s_1
  rw [s_1] at h_2 s_2
  have HB : Aside0 (Below w.heap.size w x_2) := Aside0.mk (bl_both (bl_both b_0 b_1) b_2)
  have HA : Aside0 (NAt x_2 (w.heap.size) a) := Aside0.mk ((h_0.on b_1).on b_2)
  have HM : Aside0 (NAt x_2 (w.heap.size + 1) m) := Aside0.mk (h_1.on b_2)
  have HO : Aside0 (NAt x_2 (w.heap.size + 1 + 1) 0) := Aside0.mk h_2
  have HS : Aside0 (w.heap.size + 1 + 1 + 1 ≤ x_2.heap.size) := Aside0.mk (Nat.le_of_eq s_2.symm)
  clear e_0 h_0 b_0 s_0 e_1 h_1 b_1 s_1 e_2 h_2 b_2 s_2
  obtain ⟨w1, hw_⟩ : ∃ x, x = x_2 := ⟨_, rfl⟩
  subst hw_
  clear x_0 x_1
  go_wp2_with (first | ((with_reducible refine gate_dst (N := 5) rfl ?_); refine ld_num (HA.out.range) rfl _ rfl rfl ?_) | ((with_reducible refine gate_dst (N := 6) rfl ?_); refine ld_num (HM.out.range) rfl _ rfl rfl ?_) | ((with_reducible refine gate_callee (f := 34) rfl ?_); refine goesL_ (some 7) rfl rfl Try.func34 (by kernel_rfl) rfl #[numV a, numV m] rfl (by (try simp only [List.map_toArray, List.map_cons, List.map_nil]); first | done | rfl) ?_; (with_reducible refine (HL.out _).mono ?_); rintro e u1 ⟨rfl, hb1⟩; replace HA := Aside0.mk (HA.out.on hb1); replace HM := Aside0.mk (HM.out.on hb1); replace HO := Aside0.mk (HO.out.on hb1); replace HB := Aside0.mk (bl_on HB.out hb1 HB.out.size); replace HS := Aside0.mk (Nat.le_trans HS.out hb1.size); clear hb1; refine ⟨_, rfl, ?_⟩) | ((with_reducible refine gate_dst (N := 8) rfl ?_); refine ld_num (HA.out.range) rfl _ rfl rfl ?_) | ((with_reducible refine gate_st (y := .tmp 8) rfl ?_); refine st_num (HO.out) rfl _ _ rfl rfl rfl ?_; intro u3 hA3 hT3; replace HA := Aside0.mk (HA.out.but hT3 (by omega)); replace HM := Aside0.mk (HM.out.but hT3 (by omega)); replace HO := Aside0.mk hA3; replace HB := Aside0.mk (bl_but HB.out hT3 HB.out.size (by omega)); replace HS := Aside0.mk (Nat.le_trans HS.out hT3.size); clear hA3 hT3))
  exact bodyPost_ret (v := numV a) (results_nat rfl rfl HO.out) rfl ⟨by rw [numV_def], HB.out⟩
end Go.Proofs.Ytojjbcjndgekmaa
