/- The walk of FieldInverses. -/
import Derived.Test.YtojjbcjndgekmaaFy
import Derived.Test.YtojjbcjndgekmaaGc
namespace Go.Proofs.Ytojjbcjndgekmaa
open Go.RowKit Go.Proofs.Ytojjbcjndgekmaa.Arr Go.Proofs.YtojjbcjndgekmaaW.PrintWords Go.Proofs.YtojjbcjndgekmaaW.PrintLast Go.Proofs.YtojjbcjndgekmaaW.PrintMore
set_option linter.unusedVariables false
set_option linter.unusedSimpArgs false
theorem eql_same0 (w : World) : (binOp .eql 24 (numV 0) (.agg #[.int .u64 0, .int .u64 0, .int .u64 0, .int .u64 0])).run Try.prog w = .ok (.bool true) w := eql_same 0 w
attribute [local go_sem high] eqg_num eqg_num0 eqg_num1 eql_same eql_code neq_same neq_same1 eql_same1 eql_same0
theorem invO_mod (m a : Nat) : invO m (a % m) = invO m a := by
  have h : isInv m (a % m) = isInv m a := funext fun x => by
    show (x < m ∧ a % m * x % m = 1) = (x < m ∧ a * x % m = 1)
    rw [Nat.mod_mul_mod]
  unfold invO
  rw [h]
set_option maxRecDepth 100000 in
set_option maxHeartbeats 8000000 in
theorem inverses_walk (m a : Nat) (hm : m < N256) (ha : a < N256) (w : World) :
    Calls Try.prog 3 #[numV m, numV a] w fun e w' => e = .returned (.bool true) ∧ Below w.heap.size w w' := by
  have HOD := Aside0.mk (fun u => rodd_calls m u hm)
  rw [numV_def m, numV_def a]
  by_cases hok : m % 2 = 1 ∧ m ≠ 1
  · have h1 : 1 < m := by omega
    have h0 : 0 < m := by omega
    have HN := Aside0.mk (fun u => fnew_calls m u hm hok.1 h1)
    rw [decide_eq_true hok] at HOD
    have HI1 := Aside0.mk (fun (gf : Nat) (u : World) (h : FAt u gf m (turnN m) (N256 % m) (N512 % m)) => finv_calls a u h hm hok.1 h1 ha)
    have HX1 := Aside0.mk (fun u => rin_calls a m u hm h1 ha)
    have HI2 := Aside0.mk (fun u => rinv_calls (a % m) m u hm hok.1 h1 (Nat.mod_lt a h0))
    have HMD := Aside0.mk (invO_mod m a)
    obtain ⟨iv, hiv⟩ : ∃ x, x = invV m a := ⟨_, rfl⟩
    obtain ⟨ie, hie⟩ : ∃ x, x = invE m a := ⟨_, rfl⟩
    rw [← hiv, ← hie] at HI1
    have HVE := Aside0.mk (And.intro hiv hie)
    clear hiv hie
    generalize a % m = x at *
    generalize turnN m = t at *
    generalize N256 % m = o1 at *
    generalize N512 % m = s1 at *
    clear hok h1 h0 hm ha
    go_enter Try.func3, Try.ntmps3
    go_upto_region 1 with (fail)
    refine wp_at (w2 := (World.alloc (World.alloc w (.cells (nw m).toArray 24)) (.cells (nw a).toArray 24))) rfl ?_
    obtain ⟨x_0, e_0, h_0, b_0, s_0⟩ := new_num w m
    obtain ⟨x_1, e_1, h_1, b_1, s_1⟩ := new_num x_0 a
    rw [e_0, e_1]
    rw [s_0] at h_1 s_1
    have HB : Aside0 (Below w.heap.size w x_1) := Aside0.mk (bl_both b_0 b_1)
    have HM : Aside0 (NAt x_1 (w.heap.size) m) := Aside0.mk (h_0.on b_1)
    have HA : Aside0 (NAt x_1 (w.heap.size + 1) a) := Aside0.mk h_1
    have HS : Aside0 (w.heap.size + 1 + 1 ≤ x_1.heap.size) := Aside0.mk (Nat.le_of_eq s_1.symm)
    clear e_0 h_0 b_0 s_0 e_1 h_1 b_1 s_1
    obtain ⟨w1, hw_⟩ : ∃ x, x = x_1 := ⟨_, rfl⟩
    subst hw_
    clear x_0
    go_upto_region 2 with (first | ((with_reducible refine gate_callee (f := 10) rfl ?_); refine goesL_ (some 13) rfl rfl Try.func10 (by kernel_rfl) rfl #[] rfl (by (try simp only [List.map_toArray, List.map_cons, List.map_nil]); first | done | rfl) ?_; (with_reducible refine (up2_calls _).mono ?_); rintro e u1 ⟨rfl, hb1⟩; replace HM := Aside0.mk (HM.out.on hb1); replace HA := Aside0.mk (HA.out.on hb1); replace HB := Aside0.mk (bl_on HB.out hb1 HB.out.size); replace HS := Aside0.mk (Nat.le_trans HS.out hb1.size); clear hb1; refine ⟨_, rfl, ?_⟩))
    go_upto_region 3 with (first | ((with_reducible refine gate_dst (N := 15) rfl ?_); refine ld_num (HM.out.range) rfl _ rfl rfl ?_) | ((with_reducible refine gate_callee (f := 11) rfl ?_); refine goesL_ (some 16) rfl rfl Try.func11 (by kernel_rfl) rfl #[numV m] rfl (by (try simp only [List.map_toArray, List.map_cons, List.map_nil]); first | done | rfl) ?_; (with_reducible refine (HN.out _).mono ?_); rintro e u2 ⟨gf, rfl, hge, hF, hb2⟩; have HXF : Aside0 (w.heap.size ≤ gf ∧ w.heap.size + 1 + 1 ≤ gf) := Aside0.mk ⟨Nat.le_trans HB.out.size hge, Nat.le_trans HS.out hge⟩; have HF := Aside0.mk hF; clear hF hge; replace HM := Aside0.mk (HM.out.on hb2); replace HA := Aside0.mk (HA.out.on hb2); replace HB := Aside0.mk (bl_on HB.out hb2 HB.out.size); replace HS := Aside0.mk (Nat.le_trans HS.out hb2.size); clear hb2; refine ⟨_, rfl, ?_⟩))
    go_upto_region 6 with (first | ((with_reducible refine gate_dst (N := 19) rfl ?_); refine ld_num (HM.out.range) rfl _ rfl rfl ?_) | ((with_reducible refine gate_callee (f := 12) rfl ?_); refine goesL_ (some 20) rfl rfl Try.func12 (by kernel_rfl) rfl #[numV m] rfl (by (try simp only [List.map_toArray, List.map_cons, List.map_nil]); first | done | rfl) ?_; (with_reducible refine (HOD.out _).mono ?_); rintro e u3 ⟨rfl, hb3⟩; replace HM := Aside0.mk (HM.out.on hb3); replace HA := Aside0.mk (HA.out.on hb3); replace HF := Aside0.mk (HF.out.on hb3); replace HB := Aside0.mk (bl_on HB.out hb3 HB.out.size); replace HS := Aside0.mk (Nat.le_trans HS.out hb3.size); clear hb3; refine ⟨_, rfl, ?_⟩))
    clear HOD HN
    go_upto_region 7 with (first | ((with_reducible refine gate_dst (N := 39) rfl ?_); refine ld_num (HA.out.range) rfl _ rfl rfl ?_) | ((with_reducible refine gate_callee (f := 13) rfl ?_); refine goesL_ (some 40) rfl rfl Try.func13 (by kernel_rfl) rfl #[.pointer (some ⟨gf, 0, none⟩), numV a] rfl (by (try simp only [List.map_toArray, List.map_cons, List.map_nil]); first | done | rfl) ?_; (with_reducible refine (HI1.out _ _ HF.out).mono ?_); rintro e v1 ⟨rfl, hb1⟩; replace HM := Aside0.mk (HM.out.on hb1); replace HA := Aside0.mk (HA.out.on hb1); replace HF := Aside0.mk (HF.out.on hb1); replace HB := Aside0.mk (bl_on HB.out hb1 HB.out.size); replace HS := Aside0.mk (Nat.le_trans HS.out hb1.size); clear hb1; refine ⟨_, rfl, ?_⟩) | ((with_reducible refine gate_dst (N := 9) rfl ?_); refine al_num rfl _ rfl rfl ?_; intro gX v9 eg HNX hb2; have HXgX : Aside0 (gf < gX ∧ w.heap.size < gX ∧ w.heap.size + 1 < gX ∧ w.heap.size ≤ gX) := Aside0.mk (by rw [eg]; exact ⟨HF.out.size, HM.out.size, HA.out.size, HB.out.size⟩); replace HX := Aside0.mk HNX; clear HNX eg; replace HM := Aside0.mk (HM.out.on hb2); replace HA := Aside0.mk (HA.out.on hb2); replace HF := Aside0.mk (HF.out.on hb2); replace HB := Aside0.mk (bl_on HB.out hb2 HB.out.size); replace HS := Aside0.mk (Nat.le_trans HS.out hb2.size); clear hb2) | ((with_reducible refine gate_st (y := .tmp 41) rfl ?_); (try simp only [Act.put, List.setIfInBounds_toArray, List.set_cons_zero, List.set_cons_succ]); refine st_num (HX.out) rfl _ _ rfl rfl rfl ?_; intro v2 hA2 hT2; replace HM := Aside0.mk (HM.out.but hT2 (by have := HXgX.out; omega)); replace HA := Aside0.mk (HA.out.but hT2 (by have := HXgX.out; omega)); replace HF := Aside0.mk (HF.out.but hT2 (by have := HXgX.out; omega)); replace HX := Aside0.mk hA2; replace HB := Aside0.mk (bl_but HB.out hT2 HB.out.size (by have := HXgX.out; omega)); replace HS := Aside0.mk (Nat.le_trans HS.out hT2.size); clear hA2 hT2))
    refine start_ (n := 11) (S := fun w' => Below v2.heap.size v2 w') (ds := [9]) #[false, false, false, false, false, false, false, false, false, false, false] (by kernel_rfl) rfl rfl ((Below.refl _ _).drew) (fun hHeld => ?_)
    refine take_ (i := 0) (N := some 44) (a' := ?_) #[true, false, false, false, false, false, false, false, false, false, false] rfl rfl (by kernel_rfl) (fun _ _ _ h => h) (yields_num (g := w.heap.size + 1) (o := 0) (n := a) (by rfl) (.tmp 3) rfl rfl (fun w' hS => (HA.out.below hS HA.out.size).range)) hHeld ?_ ?_
    rotate_left
    · simp only [Act.put, List.setIfInBounds_toArray, List.set_cons_zero, List.set_cons_succ, i64_w, i32_w]
      rfl
    refine take_ (i := 1) (N := some 45) (a' := ?_) #[true, true, false, false, false, false, false, false, false, false, false] rfl rfl (by kernel_rfl) (fun _ _ _ h => h) (yields_num (g := w.heap.size) (o := 0) (n := m) (by rfl) (.tmp 2) rfl rfl (fun w' hS => (HM.out.below hS HM.out.size).range)) hHeld ?_ ?_
    rotate_left
    · simp only [Act.put, List.setIfInBounds_toArray, List.set_cons_zero, List.set_cons_succ, i64_w, i32_w]
      rfl
    refine take_ (i := 3) (N := some 47) (a' := ?_) #[true, true, false, true, false, false, false, false, false, false, false] rfl rfl (by kernel_rfl) (fun _ _ _ h => h) (yields_num (g := w.heap.size) (o := 0) (n := m) (by rfl) (.tmp 2) rfl rfl (fun w' hS => (HM.out.below hS HM.out.size).range)) hHeld ?_ ?_
    rotate_left
    · simp only [Act.put, List.setIfInBounds_toArray, List.set_cons_zero, List.set_cons_succ, i64_w, i32_w]
      rfl
    refine join_ (σ := Nat × Nat × Bool) 2 #[true, true, true, true, true, true, true, true, true, false, false] (fun s => [(11, .pointer (some ⟨s.1, 0, none⟩)), (46, numV x), (48, .tuple #[numV s.2.1, .bool s.2.2]), (43, .tuple #[numV s.2.1, .bool s.2.2]), (49, numV s.2.1), (50, .bool s.2.2)]) (fun s w' => Below v2.heap.size v2 w' ∧ NAt w' s.1 0 ∧ v2.heap.size ≤ s.1 ∧ (s.2.2 = true → invO m x = some s.2.1) ∧ (s.2.2 = false → invO m x = none)) ?_ ?_
    rotate_left
    · intro hCont
      refine two_ (i := 2) (j := 8) (Ni := some 46) (Nj := some 11) #[true, true, true, true, false, false, false, false, false, false, false] #[true, true, false, true, false, false, false, false, true, false, false] rfl rfl rfl rfl (by kernel_rfl) (by decide) (by decide) (fun K hK => ?_) (fun K hK => ?_)
      · skip
        refine goes_ Try.func15 (by kernel_rfl) rfl #[numV a, numV m] (by rfl) rfl rfl (by simp only [List.map_toArray, List.map_cons, List.map_nil]; rfl) ?_
        with_reducible refine (HX1.out _).mono ?_
        rintro e x1 ⟨rfl, hb_x1⟩
        refine ⟨_, rfl, ?_⟩
        refine hK.out _ _ (bl_on hHeld hb_x1 hHeld.size) (fun hHeld => ?_)
        clear hK K
        refine norm_ (a' := ?_) ?_ ?_
        rotate_left
        · show Act.put _ (some 46) _ = _
          simp only [Act.put, List.setIfInBounds_toArray, List.set_cons_zero, List.set_cons_succ, i64_w, i32_w]
          rfl
        refine two_ (i := 4) (j := 8) (Ni := some 48) (Nj := some 11) #[true, true, true, true, true, false, false, false, false, false, false] #[true, true, true, true, false, false, false, false, true, false, false] rfl rfl rfl rfl (by kernel_rfl) (by decide) (by decide) (fun K hK => ?_) (fun K hK => ?_)
        · skip
          refine goes_ Try.func14 (by kernel_rfl) rfl #[numV x, numV m] (by rfl) rfl rfl (by simp only [List.map_toArray, List.map_cons, List.map_nil]; rfl) ?_
          with_reducible refine (HI2.out _).mono ?_
          rintro e x2 ⟨⟨y, b, rfl, hi1, hi2⟩, hb_x2⟩
          refine ⟨_, rfl, ?_⟩
          refine hK.out _ _ (bl_on hHeld hb_x2 hHeld.size) (fun hHeld => ?_)
          clear hK K
          refine norm_ (a' := ?_) ?_ ?_
          rotate_left
          · show Act.put _ (some 48) _ = _
            simp only [Act.put, List.setIfInBounds_toArray, List.set_cons_zero, List.set_cons_succ, i64_w, i32_w]
            rfl
          refine pure_ (i := 5) (N := some 43) (v := ?_) (a' := ?_) #[true, true, true, true, true, true, false, false, false, false, false] rfl rfl (by kernel_rfl) (fun _ _ _ h => h) (Or.inl ⟨by rfl, ?_⟩) ?_ ?_
          rotate_left
          · intro w'
            go_simp
            with_reducible rfl
          rotate_left
          · simp only [Act.put, List.setIfInBounds_toArray, List.set_cons_zero, List.set_cons_succ, i64_w, i32_w]
            rfl
          refine pure_ (i := 6) (N := some 49) (v := ?_) (a' := ?_) #[true, true, true, true, true, true, true, false, false, false, false] rfl rfl (by kernel_rfl) (fun _ _ _ h => h) (Or.inl ⟨by rfl, ?_⟩) ?_ ?_
          rotate_left
          · intro w'
            go_simp
            with_reducible rfl
          rotate_left
          · simp only [Act.put, List.setIfInBounds_toArray, List.set_cons_zero, List.set_cons_succ, i64_w, i32_w]
            rfl
          refine pure_ (i := 7) (N := some 50) (v := ?_) (a' := ?_) #[true, true, true, true, true, true, true, true, false, false, false] rfl rfl (by kernel_rfl) (fun _ _ _ h => h) (Or.inl ⟨by rfl, ?_⟩) ?_ ?_
          rotate_left
          · intro w'
            go_simp
            with_reducible rfl
          rotate_left
          · simp only [Act.put, List.setIfInBounds_toArray, List.set_cons_zero, List.set_cons_succ, i64_w, i32_w]
            rfl
          refine one_ (i := 8) (N := some 11) #[true, true, true, true, true, true, true, true, true, false, false] rfl rfl (by kernel_rfl) (by decide) (fun K hK => ?_)
          refine value_ (w1 := ?_) (v := ?_) (by rfl) rfl ?_ ?_
          rotate_left 2
          · go_simp
            constructor
            · rfl
            · rfl
          have hz : NAt (World.alloc x2 (.cells (nw 0).toArray 24)) (x2).heap.size 0 := Row.new x2 _ (nw 0)
          have hs : v2.heap.size ≤ (x2).heap.size := hHeld.size
          refine hK.out _ _ (below_alloc hHeld _) (fun hHeld => ?_)
          clear hK K
          refine norm_ (a' := ?_) ?_ ?_
          rotate_left
          · show Act.put _ (some 11) _ = _
            simp only [Act.put, List.setIfInBounds_toArray, List.set_cons_zero, List.set_cons_succ, i64_w, i32_w]
            rfl
          exact norm_ (by simp only [putAll, Act.put, List.setIfInBounds_toArray, List.set_cons_zero, List.set_cons_succ]) (hCont ((x2).heap.size, y, b) _ ⟨hHeld, hz, hs, hi1, hi2⟩)
        · skip
          refine value_ (w1 := ?_) (v := ?_) (by rfl) rfl ?_ ?_
          rotate_left 2
          · go_simp
            constructor
            · rfl
            · rfl
          have hz : NAt (World.alloc x1 (.cells (nw 0).toArray 24)) (x1).heap.size 0 := Row.new x1 _ (nw 0)
          have hs : v2.heap.size ≤ (x1).heap.size := hHeld.size
          refine hK.out _ _ (below_alloc hHeld _) (fun hHeld => ?_)
          clear hK K
          refine norm_ (a' := ?_) ?_ ?_
          rotate_left
          · show Act.put _ (some 11) _ = _
            simp only [Act.put, List.setIfInBounds_toArray, List.set_cons_zero, List.set_cons_succ, i64_w, i32_w]
            rfl
          refine one_ (i := 4) (N := some 48) #[true, true, true, true, true, false, false, false, true, false, false] rfl rfl (by kernel_rfl) (by decide) (fun K hK => ?_)
          refine goes_ Try.func14 (by kernel_rfl) rfl #[numV x, numV m] (by rfl) rfl rfl (by simp only [List.map_toArray, List.map_cons, List.map_nil]; rfl) ?_
          with_reducible refine (HI2.out _).mono ?_
          rintro e x2 ⟨⟨y, b, rfl, hi1, hi2⟩, hb_x2⟩
          refine ⟨_, rfl, ?_⟩
          replace hz := hz.on hb_x2
          refine hK.out _ _ (bl_on hHeld hb_x2 hHeld.size) (fun hHeld => ?_)
          clear hK K
          refine norm_ (a' := ?_) ?_ ?_
          rotate_left
          · show Act.put _ (some 48) _ = _
            simp only [Act.put, List.setIfInBounds_toArray, List.set_cons_zero, List.set_cons_succ, i64_w, i32_w]
            rfl
          refine pure_ (i := 5) (N := some 43) (v := ?_) (a' := ?_) #[true, true, true, true, true, true, false, false, true, false, false] rfl rfl (by kernel_rfl) (fun _ _ _ h => h) (Or.inl ⟨by rfl, ?_⟩) ?_ ?_
          rotate_left
          · intro w'
            go_simp
            with_reducible rfl
          rotate_left
          · simp only [Act.put, List.setIfInBounds_toArray, List.set_cons_zero, List.set_cons_succ, i64_w, i32_w]
            rfl
          refine pure_ (i := 6) (N := some 49) (v := ?_) (a' := ?_) #[true, true, true, true, true, true, true, false, true, false, false] rfl rfl (by kernel_rfl) (fun _ _ _ h => h) (Or.inl ⟨by rfl, ?_⟩) ?_ ?_
          rotate_left
          · intro w'
            go_simp
            with_reducible rfl
          rotate_left
          · simp only [Act.put, List.setIfInBounds_toArray, List.set_cons_zero, List.set_cons_succ, i64_w, i32_w]
            rfl
          refine pure_ (i := 7) (N := some 50) (v := ?_) (a' := ?_) #[true, true, true, true, true, true, true, true, true, false, false] rfl rfl (by kernel_rfl) (fun _ _ _ h => h) (Or.inl ⟨by rfl, ?_⟩) ?_ ?_
          rotate_left
          · intro w'
            go_simp
            with_reducible rfl
          rotate_left
          · simp only [Act.put, List.setIfInBounds_toArray, List.set_cons_zero, List.set_cons_succ, i64_w, i32_w]
            rfl
          exact norm_ (by simp only [putAll, Act.put, List.setIfInBounds_toArray, List.set_cons_zero, List.set_cons_succ]) (hCont ((x1).heap.size, y, b) _ ⟨hHeld, hz, hs, hi1, hi2⟩)
      · skip
        refine value_ (w1 := ?_) (v := ?_) (by rfl) rfl ?_ ?_
        rotate_left 2
        · go_simp
          constructor
          · rfl
          · rfl
        have hz : NAt (World.alloc (World.drew v2) (.cells (nw 0).toArray 24)) ((World.drew v2)).heap.size 0 := Row.new (World.drew v2) _ (nw 0)
        have hs : v2.heap.size ≤ ((World.drew v2)).heap.size := hHeld.size
        refine hK.out _ _ (below_alloc hHeld _) (fun hHeld => ?_)
        clear hK K
        refine norm_ (a' := ?_) ?_ ?_
        rotate_left
        · show Act.put _ (some 11) _ = _
          simp only [Act.put, List.setIfInBounds_toArray, List.set_cons_zero, List.set_cons_succ, i64_w, i32_w]
          rfl
        refine one_ (i := 2) (N := some 46) #[true, true, true, true, false, false, false, false, true, false, false] rfl rfl (by kernel_rfl) (by decide) (fun K hK => ?_)
        refine goes_ Try.func15 (by kernel_rfl) rfl #[numV a, numV m] (by rfl) rfl rfl (by simp only [List.map_toArray, List.map_cons, List.map_nil]; rfl) ?_
        with_reducible refine (HX1.out _).mono ?_
        rintro e x1 ⟨rfl, hb_x1⟩
        refine ⟨_, rfl, ?_⟩
        replace hz := hz.on hb_x1
        refine hK.out _ _ (bl_on hHeld hb_x1 hHeld.size) (fun hHeld => ?_)
        clear hK K
        refine norm_ (a' := ?_) ?_ ?_
        rotate_left
        · show Act.put _ (some 46) _ = _
          simp only [Act.put, List.setIfInBounds_toArray, List.set_cons_zero, List.set_cons_succ, i64_w, i32_w]
          rfl
        refine one_ (i := 4) (N := some 48) #[true, true, true, true, true, false, false, false, true, false, false] rfl rfl (by kernel_rfl) (by decide) (fun K hK => ?_)
        refine goes_ Try.func14 (by kernel_rfl) rfl #[numV x, numV m] (by rfl) rfl rfl (by simp only [List.map_toArray, List.map_cons, List.map_nil]; rfl) ?_
        with_reducible refine (HI2.out _).mono ?_
        rintro e x2 ⟨⟨y, b, rfl, hi1, hi2⟩, hb_x2⟩
        refine ⟨_, rfl, ?_⟩
        replace hz := hz.on hb_x2
        refine hK.out _ _ (bl_on hHeld hb_x2 hHeld.size) (fun hHeld => ?_)
        clear hK K
        refine norm_ (a' := ?_) ?_ ?_
        rotate_left
        · show Act.put _ (some 48) _ = _
          simp only [Act.put, List.setIfInBounds_toArray, List.set_cons_zero, List.set_cons_succ, i64_w, i32_w]
          rfl
        refine pure_ (i := 5) (N := some 43) (v := ?_) (a' := ?_) #[true, true, true, true, true, true, false, false, true, false, false] rfl rfl (by kernel_rfl) (fun _ _ _ h => h) (Or.inl ⟨by rfl, ?_⟩) ?_ ?_
        rotate_left
        · intro w'
          go_simp
          with_reducible rfl
        rotate_left
        · simp only [Act.put, List.setIfInBounds_toArray, List.set_cons_zero, List.set_cons_succ, i64_w, i32_w]
          rfl
        refine pure_ (i := 6) (N := some 49) (v := ?_) (a' := ?_) #[true, true, true, true, true, true, true, false, true, false, false] rfl rfl (by kernel_rfl) (fun _ _ _ h => h) (Or.inl ⟨by rfl, ?_⟩) ?_ ?_
        rotate_left
        · intro w'
          go_simp
          with_reducible rfl
        rotate_left
        · simp only [Act.put, List.setIfInBounds_toArray, List.set_cons_zero, List.set_cons_succ, i64_w, i32_w]
          rfl
        refine pure_ (i := 7) (N := some 50) (v := ?_) (a' := ?_) #[true, true, true, true, true, true, true, true, true, false, false] rfl rfl (by kernel_rfl) (fun _ _ _ h => h) (Or.inl ⟨by rfl, ?_⟩) ?_ ?_
        rotate_left
        · intro w'
          go_simp
          with_reducible rfl
        rotate_left
        · simp only [Act.put, List.setIfInBounds_toArray, List.set_cons_zero, List.set_cons_succ, i64_w, i32_w]
          rfl
        exact norm_ (by simp only [putAll, Act.put, List.setIfInBounds_toArray, List.set_cons_zero, List.set_cons_succ]) (hCont (v2.heap.size, y, b) _ ⟨hHeld, hz, hs, hi1, hi2⟩)
    rintro ⟨g7, y, b⟩ w5 ⟨hHeld, hz, hs, hi1, hi2⟩
    refine norm_ (a' := ?_) ?_ ?_
    rotate_left
    · simp only [putAll, Act.put, List.setIfInBounds_toArray, List.set_cons_zero, List.set_cons_succ]
      rfl
    refine last_ (i := 9) (N := none) #[true, true, true, true, true, true, true, true, true, true, false] rfl rfl (by kernel_rfl) (by decide) (fun K hK => ?_)
    refine skip_num hz (by rfl) rfl (.tmp 11) (.tmp 49) rfl rfl rfl ?_
    intro u6 hA6 hT6
    refine hK.out _ _ ?_
    clear hK K
    refine pure_ (i := 10) (N := some 12) (v := ?_) (a' := ?_) #[true, true, true, true, true, true, true, true, true, true, true] rfl rfl (by kernel_rfl) (fun _ _ _ h => h) (Or.inl ⟨by rfl, ?_⟩) ?_ ?_
    rotate_left
    · intro w'
      go_simp
      with_reducible rfl
    rotate_left
    · simp only [Act.put, List.setIfInBounds_toArray, List.set_cons_zero, List.set_cons_succ, i64_w, i32_w]
      rfl
    refine done_ (by kernel_rfl) ?_
    have HXg7 : Aside0 (gf < g7 ∧ w.heap.size < g7 ∧ w.heap.size + 1 < g7 ∧ gX < g7 ∧ w.heap.size ≤ g7) := Aside0.mk ⟨Nat.lt_of_lt_of_le HF.out.size hs, Nat.lt_of_lt_of_le HM.out.size hs, Nat.lt_of_lt_of_le HA.out.size hs, Nat.lt_of_lt_of_le HX.out.size hs, Nat.le_trans HB.out.size hs⟩
    have HY := Aside0.mk hz
    replace HM := Aside0.mk (HM.out.on hHeld)
    replace HA := Aside0.mk (HA.out.on hHeld)
    replace HF := Aside0.mk (HF.out.on hHeld)
    replace HX := Aside0.mk (HX.out.on hHeld)
    replace HB := Aside0.mk (bl_on HB.out hHeld HB.out.size)
    replace HS := Aside0.mk (Nat.le_trans HS.out hHeld.size)
    clear hHeld hs hz
    replace HM := Aside0.mk (HM.out.but hT6 (by have := HXg7.out; omega))
    replace HA := Aside0.mk (HA.out.but hT6 (by have := HXg7.out; omega))
    replace HF := Aside0.mk (HF.out.but hT6 (by have := HXg7.out; omega))
    replace HX := Aside0.mk (HX.out.but hT6 (by have := HXg7.out; omega))
    replace HY := Aside0.mk hA6
    replace HB := Aside0.mk (bl_but HB.out hT6 HB.out.size (by have := HXg7.out; omega))
    replace HS := Aside0.mk (Nat.le_trans HS.out hT6.size)
    clear hA6 hT6
    rw [HMD.out] at hi1 hi2
    cases b with
    | true =>
      have hio := hi1 rfl
      obtain ⟨e1, e2⟩ := HVE.out
      unfold invV at e1
      unfold invE at e2
      rw [hio] at e1 e2
      obtain rfl : iv = y := e1
      obtain rfl : ie = .nilIface := e2
      clear hio hi1 hi2 HVE HI1 HX1 HI2 HMD
      go_wp2_with (first | ((with_reducible refine gate_dst (N := 70) rfl ?_); refine ld_numG (HX.out.range) (by rfl) _ rfl rfl ?_) | ((with_reducible refine gate_dst (N := 71) rfl ?_); refine ld_numG (HY.out.range) (by rfl) _ rfl rfl ?_))
      go_ret
      exact ⟨rfl, HB.out⟩
    | false =>
      have hio := hi2 rfl
      obtain ⟨e1, e2⟩ := HVE.out
      unfold invV at e1
      unfold invE at e2
      rw [hio] at e1 e2
      obtain rfl : iv = 0 := e1
      obtain rfl : ie = .iface 32 (.int .i64 4) := e2
      clear hio hi1 hi2 HVE HI1 HX1 HI2 HMD
      go_wp2_with (first | ((with_reducible refine gate_dst (N := 60) rfl ?_); refine ld_numG (HX.out.range) (by rfl) _ rfl rfl ?_))
      go_ret
      exact ⟨rfl, HB.out⟩
  · have HN := Aside0.mk (fun u => fnew_none m u hm hok)
    rw [decide_eq_false hok] at HOD
    clear hok hm ha
    go_enter Try.func3, Try.ntmps3
    go_upto_region 1 with (fail)
    refine wp_at (w2 := (World.alloc (World.alloc w (.cells (nw m).toArray 24)) (.cells (nw a).toArray 24))) rfl ?_
    obtain ⟨x_0, e_0, h_0, b_0, s_0⟩ := new_num w m
    obtain ⟨x_1, e_1, h_1, b_1, s_1⟩ := new_num x_0 a
    rw [e_0, e_1]
    rw [s_0] at h_1 s_1
    have HB : Aside0 (Below w.heap.size w x_1) := Aside0.mk (bl_both b_0 b_1)
    have HM : Aside0 (NAt x_1 (w.heap.size) m) := Aside0.mk (h_0.on b_1)
    have HA : Aside0 (NAt x_1 (w.heap.size + 1) a) := Aside0.mk h_1
    have HS : Aside0 (w.heap.size + 1 + 1 ≤ x_1.heap.size) := Aside0.mk (Nat.le_of_eq s_1.symm)
    clear e_0 h_0 b_0 s_0 e_1 h_1 b_1 s_1
    obtain ⟨w1, hw_⟩ : ∃ x, x = x_1 := ⟨_, rfl⟩
    subst hw_
    clear x_0
    go_upto_region 2 with (first | ((with_reducible refine gate_callee (f := 10) rfl ?_); refine goesL_ (some 13) rfl rfl Try.func10 (by kernel_rfl) rfl #[] rfl (by (try simp only [List.map_toArray, List.map_cons, List.map_nil]); first | done | rfl) ?_; (with_reducible refine (up2_calls _).mono ?_); rintro e u1 ⟨rfl, hb1⟩; replace HM := Aside0.mk (HM.out.on hb1); replace HA := Aside0.mk (HA.out.on hb1); replace HB := Aside0.mk (bl_on HB.out hb1 HB.out.size); replace HS := Aside0.mk (Nat.le_trans HS.out hb1.size); clear hb1; refine ⟨_, rfl, ?_⟩))
    go_upto_region 3 with (first | ((with_reducible refine gate_dst (N := 15) rfl ?_); refine ld_num (HM.out.range) rfl _ rfl rfl ?_) | ((with_reducible refine gate_callee (f := 11) rfl ?_); refine goesL_ (some 16) rfl rfl Try.func11 (by kernel_rfl) rfl #[numV m] rfl (by (try simp only [List.map_toArray, List.map_cons, List.map_nil]); first | done | rfl) ?_; (with_reducible refine (HN.out _).mono ?_); rintro e u2 ⟨rfl, hb2⟩; replace HM := Aside0.mk (HM.out.on hb2); replace HA := Aside0.mk (HA.out.on hb2); replace HB := Aside0.mk (bl_on HB.out hb2 HB.out.size); replace HS := Aside0.mk (Nat.le_trans HS.out hb2.size); clear hb2; refine ⟨_, rfl, ?_⟩))
    go_wp2_with (first | ((with_reducible refine gate_dst (N := 19) rfl ?_); refine ld_num (HM.out.range) rfl _ rfl rfl ?_) | ((with_reducible refine gate_callee (f := 12) rfl ?_); refine goesL_ (some 20) rfl rfl Try.func12 (by kernel_rfl) rfl #[numV m] rfl (by (try simp only [List.map_toArray, List.map_cons, List.map_nil]); first | done | rfl) ?_; (with_reducible refine (HOD.out _).mono ?_); rintro e u3 ⟨rfl, hb3⟩; replace HM := Aside0.mk (HM.out.on hb3); replace HA := Aside0.mk (HA.out.on hb3); replace HB := Aside0.mk (bl_on HB.out hb3 HB.out.size); replace HS := Aside0.mk (Nat.le_trans HS.out hb3.size); clear hb3; refine ⟨_, rfl, ?_⟩))
    go_ret
    exact ⟨rfl, HB.out⟩
end Go.Proofs.Ytojjbcjndgekmaa
