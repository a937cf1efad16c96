/- The walks of FieldSums, FieldRing, FieldPowers, FieldSmall, FieldBack. -/
import Derived.Test.YtojjbcjndgekmaaFx
import Derived.Test.YtojjbcjndgekmaaFt
namespace Go.Proofs.Ytojjbcjndgekmaa
open Go.RowKit Go.Proofs.Ytojjbcjndgekmaa.Arr Go.Proofs.YtojjbcjndgekmaaW.PrintWords Go.Proofs.YtojjbcjndgekmaaW.PrintLast Go.Proofs.YtojjbcjndgekmaaW.PrintMore
set_option linter.unusedVariables false
set_option linter.unusedSimpArgs false
theorem neq_same (a : Nat) (w : World) : (binOp .neq 24 (numV a) (numV a)).run Try.prog w = .ok (.bool false) w := by
  have h := eql_same a w
  rw [numV_def, run_eql_struct] at h
  rw [numV_def, run_neq_struct]
  cases hr : (Op.equalIn 10000 24 (.agg #[.int .u64 (wd0 a : Nat), .int .u64 (wd1 a : Nat), .int .u64 (wd2 a : Nat), .int .u64 (wd3 a : Nat)]) (.agg #[.int .u64 (wd0 a : Nat), .int .u64 (wd1 a : Nat), .int .u64 (wd2 a : Nat), .int .u64 (wd3 a : Nat)])).run Try.prog w with
  | ok r w1 => rw [hr] at h; simp only [Result.andThen_ok] at h ⊢; injection h with h1 h2; injection h1 with h1; rw [h1, h2]; rfl
  | halt x w1 => rw [hr] at h; simp [Result.andThen] at h
theorem neq_same1 (w : World) : (binOp .neq 24 (numV 1) (.agg #[.int .u64 1, .int .u64 0, .int .u64 0, .int .u64 0])).run Try.prog w = .ok (.bool false) w := neq_same 1 w
theorem eql_same1 (w : World) : (binOp .eql 24 (numV 1) (.agg #[.int .u64 1, .int .u64 0, .int .u64 0, .int .u64 0])).run Try.prog w = .ok (.bool true) w := eql_same 1 w
attribute [local go_sem high] eqg_num eqg_num0 eqg_num1 eql_same eql_code neq_same neq_same1 eql_same1
set_option maxRecDepth 100000 in
set_option maxHeartbeats 8000000 in
theorem sums_walk (m a b : Nat) (hm : m < N256) (ha : a < N256) (hb : b < N256) (w : World) :
    Calls Try.prog 5 #[numV m, numV a, numV b] w fun e w' => e = .returned (.bool true) ∧ Below w.heap.size w w' := by
  have HOD := Aside0.mk (fun u => rodd_calls m u hm)
  rw [numV_def m, numV_def a, numV_def b]
  by_cases hok : m % 2 = 1 ∧ m ≠ 1
  · have h1 : 1 < m := by omega
    have h0 : 0 < m := by omega
    have HN := Aside0.mk (fun u => fnew_calls m u hm hok.1 h1)
    rw [decide_eq_true hok] at HOD
    have HA1 := Aside0.mk (fun (gf : Nat) (u : World) (h : FAt u gf m (turnN m) (N256 % m) (N512 % m)) => fieldadd_calls a b u h hm h0 ha hb)
    have HA2 := Aside0.mk (fun u => fadd_calls (IsNum.mk (Nat.lt_trans (Nat.mod_lt a h0) hm)) (IsNum.mk (Nat.lt_trans (Nat.mod_lt b h0) hm)) (IsNum.mk hm) (Nat.mod_lt a h0) (Nat.mod_lt b h0) u)
    have HS1 := Aside0.mk (fun (gf : Nat) (u : World) (h : FAt u gf m (turnN m) (N256 % m) (N512 % m)) => fieldsub_calls a b u h hm h0 ha hb)
    have HS2 := Aside0.mk (fun u => rsub_calls (a % m) (b % m) m u hm (Nat.mod_lt a h0) (Nat.mod_lt b h0))
    have HP1 := Aside0.mk (fun (gf : Nat) (u : World) (h : FAt u gf m (turnN m) (N256 % m) (N512 % m)) => fmul_calls a b u h hm hok.1 h1 ha hb)
    have HP2 := Aside0.mk (fun u => rmul_calls (a % m) (b % m) m u hm (Nat.mod_lt a h0) (Nat.lt_trans (Nat.mod_lt b h0) hm))
    rw [← Nat.mul_mod] at HP2
    have HX1 := Aside0.mk (fun u => rin_calls a m u hm h1 ha)
    have HX2 := Aside0.mk (fun u => rin_calls b m u hm h1 hb)
    generalize (a % m + b % m) % m = r1 at *
    generalize (a % m + m - b % m) % m = r2 at *
    generalize a * b % m = r3 at *
    generalize a % m = x at *
    generalize b % m = y at *
    generalize turnN m = t at *
    generalize N256 % m = o1 at *
    generalize N512 % m = s1 at *
    clear hok h1 h0 hm ha hb
    go_enter Try.func5, Try.ntmps5
    go_upto_region 1 with (fail)
    refine wp_at (w2 := (World.alloc (World.alloc (World.alloc w (.cells (nw m).toArray 24)) (.cells (nw a).toArray 24)) (.cells (nw b).toArray 24))) rfl ?_
    obtain ⟨x_0, e_0, h_0, b_0, s_0⟩ := new_num w m
    obtain ⟨x_1, e_1, h_1, b_1, s_1⟩ := new_num x_0 a
    obtain ⟨x_2, e_2, h_2, b_2, s_2⟩ := new_num x_1 b
    rw [e_0, e_1, e_2]
    rw [s_0] at h_1 s_1
    rw [s_1] at h_2 s_2
    have HB : Aside0 (Below w.heap.size w x_2) := Aside0.mk (bl_both (bl_both b_0 b_1) b_2)
    have HM : Aside0 (NAt x_2 (w.heap.size) m) := Aside0.mk ((h_0.on b_1).on b_2)
    have HA : Aside0 (NAt x_2 (w.heap.size + 1) a) := Aside0.mk (h_1.on b_2)
    have HB2 : Aside0 (NAt x_2 (w.heap.size + 1 + 1) b) := Aside0.mk h_2
    have HS : Aside0 (w.heap.size + 1 + 1 + 1 ≤ x_2.heap.size) := Aside0.mk (Nat.le_of_eq s_2.symm)
    clear e_0 h_0 b_0 s_0 e_1 h_1 b_1 s_1 e_2 h_2 b_2 s_2
    obtain ⟨w1, hw_⟩ : ∃ x, x = x_2 := ⟨_, rfl⟩
    subst hw_
    clear x_0 x_1
    go_upto_region 2 with (first | ((with_reducible refine gate_callee (f := 10) rfl ?_); refine goesL_ (some 13) rfl rfl Try.func10 (by kernel_rfl) rfl #[] rfl (by (try simp only [List.map_toArray, List.map_cons, List.map_nil]); first | done | rfl) ?_; (with_reducible refine (up2_calls _).mono ?_); rintro e u1 ⟨rfl, hb1⟩; replace HM := Aside0.mk (HM.out.on hb1); replace HA := Aside0.mk (HA.out.on hb1); replace HB2 := Aside0.mk (HB2.out.on hb1); replace HB := Aside0.mk (bl_on HB.out hb1 HB.out.size); replace HS := Aside0.mk (Nat.le_trans HS.out hb1.size); clear hb1; refine ⟨_, rfl, ?_⟩))
    go_upto_region 3 with (first | ((with_reducible refine gate_dst (N := 15) rfl ?_); refine ld_num (HM.out.range) rfl _ rfl rfl ?_) | ((with_reducible refine gate_callee (f := 11) rfl ?_); refine goesL_ (some 16) rfl rfl Try.func11 (by kernel_rfl) rfl #[numV m] rfl (by (try simp only [List.map_toArray, List.map_cons, List.map_nil]); first | done | rfl) ?_; (with_reducible refine (HN.out _).mono ?_); rintro e u2 ⟨gf, rfl, hge, hF, hb2⟩; have HXF : Aside0 (w.heap.size ≤ gf ∧ w.heap.size + 1 + 1 + 1 ≤ gf) := Aside0.mk ⟨Nat.le_trans HB.out.size hge, Nat.le_trans HS.out hge⟩; have HF := Aside0.mk hF; clear hF hge; replace HM := Aside0.mk (HM.out.on hb2); replace HA := Aside0.mk (HA.out.on hb2); replace HB2 := Aside0.mk (HB2.out.on hb2); replace HB := Aside0.mk (bl_on HB.out hb2 HB.out.size); replace HS := Aside0.mk (Nat.le_trans HS.out hb2.size); clear hb2; refine ⟨_, rfl, ?_⟩))
    go_upto_region 6 with (first | ((with_reducible refine gate_dst (N := 19) rfl ?_); refine ld_num (HM.out.range) rfl _ rfl rfl ?_) | ((with_reducible refine gate_callee (f := 12) rfl ?_); refine goesL_ (some 20) rfl rfl Try.func12 (by kernel_rfl) rfl #[numV m] rfl (by (try simp only [List.map_toArray, List.map_cons, List.map_nil]); first | done | rfl) ?_; (with_reducible refine (HOD.out _).mono ?_); rintro e u3 ⟨rfl, hb3⟩; replace HM := Aside0.mk (HM.out.on hb3); replace HA := Aside0.mk (HA.out.on hb3); replace HB2 := Aside0.mk (HB2.out.on hb3); replace HF := Aside0.mk (HF.out.on hb3); replace HB := Aside0.mk (bl_on HB.out hb3 HB.out.size); replace HS := Aside0.mk (Nat.le_trans HS.out hb3.size); clear hb3; refine ⟨_, rfl, ?_⟩))
    clear HOD HN
    go_upto_region 7 with (first | ((with_reducible refine gate_dst (N := 37) rfl ?_); refine ld_num (HA.out.range) rfl _ rfl rfl ?_) | ((with_reducible refine gate_dst (N := 38) rfl ?_); refine ld_num (HM.out.range) rfl _ rfl rfl ?_) | ((with_reducible refine gate_callee (f := 15) rfl ?_); refine goesL_ (some 39) rfl rfl Try.func15 (by kernel_rfl) rfl #[numV a, numV m] rfl (by (try simp only [List.map_toArray, List.map_cons, List.map_nil]); first | done | rfl) ?_; (with_reducible refine (HX1.out _).mono ?_); rintro e v1 ⟨rfl, hb1⟩; replace HM := Aside0.mk (HM.out.on hb1); replace HA := Aside0.mk (HA.out.on hb1); replace HB2 := Aside0.mk (HB2.out.on hb1); replace HF := Aside0.mk (HF.out.on hb1); replace HB := Aside0.mk (bl_on HB.out hb1 HB.out.size); replace HS := Aside0.mk (Nat.le_trans HS.out hb1.size); clear hb1; refine ⟨_, rfl, ?_⟩) | ((with_reducible refine gate_dst (N := 11) rfl ?_); refine al_num rfl _ rfl rfl ?_; intro gX v11 eg HNX hb2; have HXgX : Aside0 (gf < gX ∧ w.heap.size < gX ∧ w.heap.size + 1 < gX ∧ w.heap.size + 1 + 1 < gX ∧ w.heap.size ≤ gX) := Aside0.mk (by rw [eg]; exact ⟨HF.out.size, HM.out.size, HA.out.size, HB2.out.size, HB.out.size⟩); replace HX := Aside0.mk HNX; clear HNX eg; replace HM := Aside0.mk (HM.out.on hb2); replace HA := Aside0.mk (HA.out.on hb2); replace HB2 := Aside0.mk (HB2.out.on hb2); replace HF := Aside0.mk (HF.out.on hb2); replace HB := Aside0.mk (bl_on HB.out hb2 HB.out.size); replace HS := Aside0.mk (Nat.le_trans HS.out hb2.size); clear hb2) | ((with_reducible refine gate_st (y := .tmp 39) rfl ?_); (try simp only [Act.put, List.setIfInBounds_toArray, List.set_cons_zero, List.set_cons_succ]); refine st_num (HX.out) rfl _ _ rfl rfl rfl ?_; intro v2 hA2 hT2; replace HM := Aside0.mk (HM.out.but hT2 (by have := HXgX.out; omega)); replace HA := Aside0.mk (HA.out.but hT2 (by have := HXgX.out; omega)); replace HB2 := Aside0.mk (HB2.out.but hT2 (by have := HXgX.out; omega)); replace HF := Aside0.mk (HF.out.but hT2 (by have := HXgX.out; omega)); replace HX := Aside0.mk hA2; replace HB := Aside0.mk (bl_but HB.out hT2 HB.out.size (by have := HXgX.out; omega)); replace HS := Aside0.mk (Nat.le_trans HS.out hT2.size); clear hA2 hT2))
    go_upto_region 8 with (first | ((with_reducible refine gate_dst (N := 40) rfl ?_); refine ld_num (HB2.out.range) rfl _ rfl rfl ?_) | ((with_reducible refine gate_dst (N := 41) rfl ?_); refine ld_num (HM.out.range) rfl _ rfl rfl ?_) | ((with_reducible refine gate_callee (f := 15) rfl ?_); refine goesL_ (some 42) rfl rfl Try.func15 (by kernel_rfl) rfl #[numV b, numV m] rfl (by (try simp only [List.map_toArray, List.map_cons, List.map_nil]); first | done | rfl) ?_; (with_reducible refine (HX2.out _).mono ?_); rintro e v3 ⟨rfl, hb3⟩; replace HM := Aside0.mk (HM.out.on hb3); replace HA := Aside0.mk (HA.out.on hb3); replace HB2 := Aside0.mk (HB2.out.on hb3); replace HF := Aside0.mk (HF.out.on hb3); replace HX := Aside0.mk (HX.out.on hb3); replace HB := Aside0.mk (bl_on HB.out hb3 HB.out.size); replace HS := Aside0.mk (Nat.le_trans HS.out hb3.size); clear hb3; refine ⟨_, rfl, ?_⟩) | ((with_reducible refine gate_dst (N := 12) rfl ?_); refine al_num rfl _ rfl rfl ?_; intro gY v12 eg HNY hb2; have HXgY : Aside0 (gf < gY ∧ w.heap.size < gY ∧ w.heap.size + 1 < gY ∧ w.heap.size + 1 + 1 < gY ∧ gX < gY ∧ w.heap.size ≤ gY) := Aside0.mk (by rw [eg]; exact ⟨HF.out.size, HM.out.size, HA.out.size, HB2.out.size, HX.out.size, HB.out.size⟩); replace HY := Aside0.mk HNY; clear HNY eg; replace HM := Aside0.mk (HM.out.on hb2); replace HA := Aside0.mk (HA.out.on hb2); replace HB2 := Aside0.mk (HB2.out.on hb2); replace HF := Aside0.mk (HF.out.on hb2); replace HX := Aside0.mk (HX.out.on hb2); replace HB := Aside0.mk (bl_on HB.out hb2 HB.out.size); replace HS := Aside0.mk (Nat.le_trans HS.out hb2.size); clear hb2) | ((with_reducible refine gate_st (y := .tmp 42) rfl ?_); (try simp only [Act.put, List.setIfInBounds_toArray, List.set_cons_zero, List.set_cons_succ]); refine st_num (HY.out) rfl _ _ rfl rfl rfl ?_; intro v4 hA4 hT4; replace HM := Aside0.mk (HM.out.but hT4 (by have := HXgY.out; omega)); replace HA := Aside0.mk (HA.out.but hT4 (by have := HXgY.out; omega)); replace HB2 := Aside0.mk (HB2.out.but hT4 (by have := HXgY.out; omega)); replace HF := Aside0.mk (HF.out.but hT4 (by have := HXgY.out; omega)); replace HX := Aside0.mk (HX.out.but hT4 (by have := HXgY.out; omega)); replace HY := Aside0.mk hA4; replace HB := Aside0.mk (bl_but HB.out hT4 HB.out.size (by have := HXgY.out; omega)); replace HS := Aside0.mk (Nat.le_trans HS.out hT4.size); clear hA4 hT4))
    refine start_ (n := 35) (S := fun w' => Below v4.heap.size v4 w') (ds := []) #[false, false, false, false, false, false, false, false, false, false, false, false, false, false, false, false, false, false, false, false, false, false, false, false, false, false, false, false, false, false, false, false, false, false, false] (by kernel_rfl) rfl rfl ((Below.refl _ _).drew) (fun hHeld => ?_)
    refine pure_ (i := 0) (N := some 43) (v := ?_) (a' := ?_) #[true, false, false, false, false, false, false, false, false, false, false, false, false, false, false, false, false, false, false, false, false, false, false, false, false, false, false, false, false, false, false, false, false, false, false] rfl rfl (by kernel_rfl) (fun _ _ _ h => h) (Or.inl ⟨by rfl, ?_⟩) ?_ ?_
    rotate_left
    · intro w'
      go_simp
      with_reducible rfl
    rotate_left
    · simp only [Act.put, List.setIfInBounds_toArray, List.set_cons_zero, List.set_cons_succ, i64_w, i32_w]
      rfl
    refine pure_ (i := 1) (N := some 44) (v := ?_) (a' := ?_) #[true, true, false, false, false, false, false, false, false, false, false, false, false, false, false, false, false, false, false, false, false, false, false, false, false, false, false, false, false, false, false, false, false, false, false] rfl rfl (by kernel_rfl) (fun _ _ _ h => h) (Or.inl ⟨by rfl, ?_⟩) ?_ ?_
    rotate_left
    · intro w'
      go_simp
      with_reducible rfl
    rotate_left
    · simp only [Act.put, List.setIfInBounds_toArray, List.set_cons_zero, List.set_cons_succ, i64_w, i32_w]
      rfl
    refine pure_ (i := 2) (N := some 45) (v := ?_) (a' := ?_) #[true, true, true, false, false, false, false, false, false, false, false, false, false, false, false, false, false, false, false, false, false, false, false, false, false, false, false, false, false, false, false, false, false, false, false] rfl rfl (by kernel_rfl) (fun _ _ _ h => h) (Or.inl ⟨by rfl, ?_⟩) ?_ ?_
    rotate_left
    · intro w'
      go_simp
      with_reducible rfl
    rotate_left
    · simp only [Act.put, List.setIfInBounds_toArray, List.set_cons_zero, List.set_cons_succ, i64_w, i32_w]
      rfl
    refine take_ (i := 3) (N := some 46) (a' := ?_) #[true, true, true, true, false, false, false, false, false, false, false, false, false, false, false, false, false, false, false, false, false, false, false, false, false, false, false, false, false, false, false, false, false, false, false] rfl rfl (by kernel_rfl) (fun _ _ _ h => h) (yields_num (g := w.heap.size + 1) (o := 0) (n := a) (by rfl) (.tmp 4) rfl rfl (fun w' hS => (HA.out.below hS HA.out.size).range)) hHeld ?_ ?_
    rotate_left
    · simp only [Act.put, List.setIfInBounds_toArray, List.set_cons_zero, List.set_cons_succ, i64_w, i32_w]
      rfl
    refine take_ (i := 4) (N := some 47) (a' := ?_) #[true, true, true, true, true, false, false, false, false, false, false, false, false, false, false, false, false, false, false, false, false, false, false, false, false, false, false, false, false, false, false, false, false, false, false] rfl rfl (by kernel_rfl) (fun _ _ _ h => h) (yields_num (g := w.heap.size + 1 + 1) (o := 0) (n := b) (by rfl) (.tmp 5) rfl rfl (fun w' hS => (HB2.out.below hS HB2.out.size).range)) hHeld ?_ ?_
    rotate_left
    · simp only [Act.put, List.setIfInBounds_toArray, List.set_cons_zero, List.set_cons_succ, i64_w, i32_w]
      rfl
    refine take_ (i := 6) (N := some 49) (a' := ?_) #[true, true, true, true, true, false, true, false, false, false, false, false, false, false, false, false, false, false, false, false, false, false, false, false, false, false, false, false, false, false, false, false, false, false, false] rfl rfl (by kernel_rfl) (fun _ _ _ h => h) (yields_num (g := gX) (o := 0) (n := x) (by rfl) (.tmp 11) rfl rfl (fun w' hS => (HX.out.below hS HX.out.size).range)) hHeld ?_ ?_
    rotate_left
    · simp only [Act.put, List.setIfInBounds_toArray, List.set_cons_zero, List.set_cons_succ, i64_w, i32_w]
      rfl
    refine take_ (i := 7) (N := some 50) (a' := ?_) #[true, true, true, true, true, false, true, true, false, false, false, false, false, false, false, false, false, false, false, false, false, false, false, false, false, false, false, false, false, false, false, false, false, false, false] rfl rfl (by kernel_rfl) (fun _ _ _ h => h) (yields_num (g := gY) (o := 0) (n := y) (by rfl) (.tmp 12) rfl rfl (fun w' hS => (HY.out.below hS HY.out.size).range)) hHeld ?_ ?_
    rotate_left
    · simp only [Act.put, List.setIfInBounds_toArray, List.set_cons_zero, List.set_cons_succ, i64_w, i32_w]
      rfl
    refine take_ (i := 8) (N := some 51) (a' := ?_) #[true, true, true, true, true, false, true, true, true, false, false, false, false, false, false, false, false, false, false, false, false, false, false, false, false, false, false, false, false, false, false, false, false, false, false] rfl rfl (by kernel_rfl) (fun _ _ _ h => h) (yields_num (g := w.heap.size) (o := 0) (n := m) (by rfl) (.tmp 3) rfl rfl (fun w' hS => (HM.out.below hS HM.out.size).range)) hHeld ?_ ?_
    rotate_left
    · simp only [Act.put, List.setIfInBounds_toArray, List.set_cons_zero, List.set_cons_succ, i64_w, i32_w]
      rfl
    refine one_ (i := 5) (N := some 48) #[true, true, true, true, true, true, true, true, true, false, false, false, false, false, false, false, false, false, false, false, false, false, false, false, false, false, false, false, false, false, false, false, false, false, false] rfl rfl (by kernel_rfl) (by decide) (fun K hK => ?_)
    refine goes_ Try.func19 (by kernel_rfl) rfl #[.pointer (some ⟨gf, 0, none⟩), numV a, numV b] (by rfl) rfl rfl (by simp only [List.map_toArray, List.map_cons, List.map_nil]; rfl) ?_
    with_reducible refine (HA1.out _ _ (HF.out.below hHeld HF.out.size)).mono ?_
    rintro e x0 ⟨rfl, hy0⟩
    refine ⟨_, rfl, ?_⟩
    refine hK.out _ _ (hHeld.trans (hy0.mono hHeld.size)) (fun hHeld => ?_)
    clear hK K
    refine norm_ (a' := ?_) ?_ ?_
    rotate_left
    · show Act.put _ (some 48) _ = _
      simp only [Act.put, List.setIfInBounds_toArray, List.set_cons_zero, List.set_cons_succ, i64_w, i32_w]
      rfl
    refine one_ (i := 9) (N := some 52) #[true, true, true, true, true, true, true, true, true, true, false, false, false, false, false, false, false, false, false, false, false, false, false, false, false, false, false, false, false, false, false, false, false, false, false] rfl rfl (by kernel_rfl) (by decide) (fun K hK => ?_)
    refine goes_ Try.func20 (by kernel_rfl) rfl #[numV x, numV y, numV m] (by rfl) rfl rfl (by simp only [List.map_toArray, List.map_cons, List.map_nil]; rfl) ?_
    with_reducible refine (HA2.out _).mono ?_
    rintro e x1 ⟨rfl, hy1⟩
    refine ⟨_, rfl, ?_⟩
    refine hK.out _ _ (hHeld.trans (hy1.mono hHeld.size)) (fun hHeld => ?_)
    clear hK K
    refine norm_ (a' := ?_) ?_ ?_
    rotate_left
    · show Act.put _ (some 52) _ = _
      simp only [Act.put, List.setIfInBounds_toArray, List.set_cons_zero, List.set_cons_succ, i64_w, i32_w]
      rfl
    refine pure_ (i := 10) (N := some 53) (v := ?_) (a' := ?_) #[true, true, true, true, true, true, true, true, true, true, true, false, false, false, false, false, false, false, false, false, false, false, false, false, false, false, false, false, false, false, false, false, false, false, false] rfl rfl (by kernel_rfl) (fun _ _ _ h => h) (Or.inl ⟨by rfl, ?_⟩) ?_ ?_
    rotate_left
    · intro w'
      go_simp
      with_reducible rfl
    rotate_left
    · simp only [Act.put, List.setIfInBounds_toArray, List.set_cons_zero, List.set_cons_succ, i64_w, i32_w]
      rfl
    refine pure_ (i := 11) (N := some 54) (v := ?_) (a' := ?_) #[true, true, true, true, true, true, true, true, true, true, true, true, false, false, false, false, false, false, false, false, false, false, false, false, false, false, false, false, false, false, false, false, false, false, false] rfl rfl (by kernel_rfl) (fun _ _ _ h => h) (Or.inl ⟨by rfl, ?_⟩) ?_ ?_
    rotate_left
    · intro w'
      go_simp
      with_reducible rfl
    rotate_left
    · simp only [Act.put, List.setIfInBounds_toArray, List.set_cons_zero, List.set_cons_succ, i64_w, i32_w]
      rfl
    refine pure_ (i := 12) (N := some 55) (v := ?_) (a' := ?_) #[true, true, true, true, true, true, true, true, true, true, true, true, true, false, false, false, false, false, false, false, false, false, false, false, false, false, false, false, false, false, false, false, false, false, false] rfl rfl (by kernel_rfl) (fun _ _ _ h => h) (Or.inl ⟨by rfl, ?_⟩) ?_ ?_
    rotate_left
    · intro w'
      go_simp
      with_reducible rfl
    rotate_left
    · simp only [Act.put, List.setIfInBounds_toArray, List.set_cons_zero, List.set_cons_succ, i64_w, i32_w]
      rfl
    refine pure_ (i := 13) (N := some 56) (v := ?_) (a' := ?_) #[true, true, true, true, true, true, true, true, true, true, true, true, true, true, false, false, false, false, false, false, false, false, false, false, false, false, false, false, false, false, false, false, false, false, false] rfl rfl (by kernel_rfl) (fun _ _ _ h => h) (Or.inl ⟨by rfl, ?_⟩) ?_ ?_
    rotate_left
    · intro w'
      go_simp
      with_reducible rfl
    rotate_left
    · simp only [Act.put, List.setIfInBounds_toArray, List.set_cons_zero, List.set_cons_succ, i64_w, i32_w]
      rfl
    refine take_ (i := 14) (N := some 57) (a' := ?_) #[true, true, true, true, true, true, true, true, true, true, true, true, true, true, true, false, false, false, false, false, false, false, false, false, false, false, false, false, false, false, false, false, false, false, false] rfl rfl (by kernel_rfl) (fun _ _ _ h => h) (yields_num (g := w.heap.size + 1) (o := 0) (n := a) (by rfl) (.tmp 4) rfl rfl (fun w' hS => (HA.out.below hS HA.out.size).range)) hHeld ?_ ?_
    rotate_left
    · simp only [Act.put, List.setIfInBounds_toArray, List.set_cons_zero, List.set_cons_succ, i64_w, i32_w]
      rfl
    refine take_ (i := 15) (N := some 58) (a' := ?_) #[true, true, true, true, true, true, true, true, true, true, true, true, true, true, true, true, false, false, false, false, false, false, false, false, false, false, false, false, false, false, false, false, false, false, false] rfl rfl (by kernel_rfl) (fun _ _ _ h => h) (yields_num (g := w.heap.size + 1 + 1) (o := 0) (n := b) (by rfl) (.tmp 5) rfl rfl (fun w' hS => (HB2.out.below hS HB2.out.size).range)) hHeld ?_ ?_
    rotate_left
    · simp only [Act.put, List.setIfInBounds_toArray, List.set_cons_zero, List.set_cons_succ, i64_w, i32_w]
      rfl
    refine take_ (i := 17) (N := some 60) (a' := ?_) #[true, true, true, true, true, true, true, true, true, true, true, true, true, true, true, true, false, true, false, false, false, false, false, false, false, false, false, false, false, false, false, false, false, false, false] rfl rfl (by kernel_rfl) (fun _ _ _ h => h) (yields_num (g := gX) (o := 0) (n := x) (by rfl) (.tmp 11) rfl rfl (fun w' hS => (HX.out.below hS HX.out.size).range)) hHeld ?_ ?_
    rotate_left
    · simp only [Act.put, List.setIfInBounds_toArray, List.set_cons_zero, List.set_cons_succ, i64_w, i32_w]
      rfl
    refine take_ (i := 18) (N := some 61) (a' := ?_) #[true, true, true, true, true, true, true, true, true, true, true, true, true, true, true, true, false, true, true, false, false, false, false, false, false, false, false, false, false, false, false, false, false, false, false] rfl rfl (by kernel_rfl) (fun _ _ _ h => h) (yields_num (g := gY) (o := 0) (n := y) (by rfl) (.tmp 12) rfl rfl (fun w' hS => (HY.out.below hS HY.out.size).range)) hHeld ?_ ?_
    rotate_left
    · simp only [Act.put, List.setIfInBounds_toArray, List.set_cons_zero, List.set_cons_succ, i64_w, i32_w]
      rfl
    refine take_ (i := 19) (N := some 62) (a' := ?_) #[true, true, true, true, true, true, true, true, true, true, true, true, true, true, true, true, false, true, true, true, false, false, false, false, false, false, false, false, false, false, false, false, false, false, false] rfl rfl (by kernel_rfl) (fun _ _ _ h => h) (yields_num (g := w.heap.size) (o := 0) (n := m) (by rfl) (.tmp 3) rfl rfl (fun w' hS => (HM.out.below hS HM.out.size).range)) hHeld ?_ ?_
    rotate_left
    · simp only [Act.put, List.setIfInBounds_toArray, List.set_cons_zero, List.set_cons_succ, i64_w, i32_w]
      rfl
    refine one_ (i := 16) (N := some 59) #[true, true, true, true, true, true, true, true, true, true, true, true, true, true, true, true, true, true, true, true, false, false, false, false, false, false, false, false, false, false, false, false, false, false, false] rfl rfl (by kernel_rfl) (by decide) (fun K hK => ?_)
    refine goes_ Try.func21 (by kernel_rfl) rfl #[.pointer (some ⟨gf, 0, none⟩), numV a, numV b] (by rfl) rfl rfl (by simp only [List.map_toArray, List.map_cons, List.map_nil]; rfl) ?_
    with_reducible refine (HS1.out _ _ (HF.out.below hHeld HF.out.size)).mono ?_
    rintro e x2 ⟨rfl, hy2⟩
    refine ⟨_, rfl, ?_⟩
    refine hK.out _ _ (hHeld.trans (hy2.mono hHeld.size)) (fun hHeld => ?_)
    clear hK K
    refine norm_ (a' := ?_) ?_ ?_
    rotate_left
    · show Act.put _ (some 59) _ = _
      simp only [Act.put, List.setIfInBounds_toArray, List.set_cons_zero, List.set_cons_succ, i64_w, i32_w]
      rfl
    refine one_ (i := 20) (N := some 63) #[true, true, true, true, true, true, true, true, true, true, true, true, true, true, true, true, true, true, true, true, true, false, false, false, false, false, false, false, false, false, false, false, false, false, false] rfl rfl (by kernel_rfl) (by decide) (fun K hK => ?_)
    refine goes_ Try.func22 (by kernel_rfl) rfl #[numV x, numV y, numV m] (by rfl) rfl rfl (by simp only [List.map_toArray, List.map_cons, List.map_nil]; rfl) ?_
    with_reducible refine (HS2.out _).mono ?_
    rintro e x3 ⟨rfl, hy3⟩
    refine ⟨_, rfl, ?_⟩
    refine hK.out _ _ (hHeld.trans (hy3.mono hHeld.size)) (fun hHeld => ?_)
    clear hK K
    refine norm_ (a' := ?_) ?_ ?_
    rotate_left
    · show Act.put _ (some 63) _ = _
      simp only [Act.put, List.setIfInBounds_toArray, List.set_cons_zero, List.set_cons_succ, i64_w, i32_w]
      rfl
    refine pure_ (i := 21) (N := some 64) (v := ?_) (a' := ?_) #[true, true, true, true, true, true, true, true, true, true, true, true, true, true, true, true, true, true, true, true, true, true, false, false, false, false, false, false, false, false, false, false, false, false, false] rfl rfl (by kernel_rfl) (fun _ _ _ h => h) (Or.inl ⟨by rfl, ?_⟩) ?_ ?_
    rotate_left
    · intro w'
      go_simp
      with_reducible rfl
    rotate_left
    · simp only [Act.put, List.setIfInBounds_toArray, List.set_cons_zero, List.set_cons_succ, i64_w, i32_w]
      rfl
    refine pure_ (i := 22) (N := some 65) (v := ?_) (a' := ?_) #[true, true, true, true, true, true, true, true, true, true, true, true, true, true, true, true, true, true, true, true, true, true, true, false, false, false, false, false, false, false, false, false, false, false, false] rfl rfl (by kernel_rfl) (fun _ _ _ h => h) (Or.inl ⟨by rfl, ?_⟩) ?_ ?_
    rotate_left
    · intro w'
      go_simp
      with_reducible rfl
    rotate_left
    · simp only [Act.put, List.setIfInBounds_toArray, List.set_cons_zero, List.set_cons_succ, i64_w, i32_w]
      rfl
    refine pure_ (i := 23) (N := some 66) (v := ?_) (a' := ?_) #[true, true, true, true, true, true, true, true, true, true, true, true, true, true, true, true, true, true, true, true, true, true, true, true, false, false, false, false, false, false, false, false, false, false, false] rfl rfl (by kernel_rfl) (fun _ _ _ h => h) (Or.inl ⟨by rfl, ?_⟩) ?_ ?_
    rotate_left
    · intro w'
      go_simp
      with_reducible rfl
    rotate_left
    · simp only [Act.put, List.setIfInBounds_toArray, List.set_cons_zero, List.set_cons_succ, i64_w, i32_w]
      rfl
    refine pure_ (i := 24) (N := some 67) (v := ?_) (a' := ?_) #[true, true, true, true, true, true, true, true, true, true, true, true, true, true, true, true, true, true, true, true, true, true, true, true, true, false, false, false, false, false, false, false, false, false, false] rfl rfl (by kernel_rfl) (fun _ _ _ h => h) (Or.inl ⟨by rfl, ?_⟩) ?_ ?_
    rotate_left
    · intro w'
      go_simp
      with_reducible rfl
    rotate_left
    · simp only [Act.put, List.setIfInBounds_toArray, List.set_cons_zero, List.set_cons_succ, i64_w, i32_w]
      rfl
    refine take_ (i := 25) (N := some 68) (a' := ?_) #[true, true, true, true, true, true, true, true, true, true, true, true, true, true, true, true, true, true, true, true, true, true, true, true, true, true, false, false, false, false, false, false, false, false, false] rfl rfl (by kernel_rfl) (fun _ _ _ h => h) (yields_num (g := w.heap.size + 1) (o := 0) (n := a) (by rfl) (.tmp 4) rfl rfl (fun w' hS => (HA.out.below hS HA.out.size).range)) hHeld ?_ ?_
    rotate_left
    · simp only [Act.put, List.setIfInBounds_toArray, List.set_cons_zero, List.set_cons_succ, i64_w, i32_w]
      rfl
    refine take_ (i := 26) (N := some 69) (a' := ?_) #[true, true, true, true, true, true, true, true, true, true, true, true, true, true, true, true, true, true, true, true, true, true, true, true, true, true, true, false, false, false, false, false, false, false, false] rfl rfl (by kernel_rfl) (fun _ _ _ h => h) (yields_num (g := w.heap.size + 1 + 1) (o := 0) (n := b) (by rfl) (.tmp 5) rfl rfl (fun w' hS => (HB2.out.below hS HB2.out.size).range)) hHeld ?_ ?_
    rotate_left
    · simp only [Act.put, List.setIfInBounds_toArray, List.set_cons_zero, List.set_cons_succ, i64_w, i32_w]
      rfl
    refine take_ (i := 28) (N := some 71) (a' := ?_) #[true, true, true, true, true, true, true, true, true, true, true, true, true, true, true, true, true, true, true, true, true, true, true, true, true, true, true, false, true, false, false, false, false, false, false] rfl rfl (by kernel_rfl) (fun _ _ _ h => h) (yields_num (g := gX) (o := 0) (n := x) (by rfl) (.tmp 11) rfl rfl (fun w' hS => (HX.out.below hS HX.out.size).range)) hHeld ?_ ?_
    rotate_left
    · simp only [Act.put, List.setIfInBounds_toArray, List.set_cons_zero, List.set_cons_succ, i64_w, i32_w]
      rfl
    refine take_ (i := 29) (N := some 72) (a' := ?_) #[true, true, true, true, true, true, true, true, true, true, true, true, true, true, true, true, true, true, true, true, true, true, true, true, true, true, true, false, true, true, false, false, false, false, false] rfl rfl (by kernel_rfl) (fun _ _ _ h => h) (yields_num (g := gY) (o := 0) (n := y) (by rfl) (.tmp 12) rfl rfl (fun w' hS => (HY.out.below hS HY.out.size).range)) hHeld ?_ ?_
    rotate_left
    · simp only [Act.put, List.setIfInBounds_toArray, List.set_cons_zero, List.set_cons_succ, i64_w, i32_w]
      rfl
    refine take_ (i := 30) (N := some 73) (a' := ?_) #[true, true, true, true, true, true, true, true, true, true, true, true, true, true, true, true, true, true, true, true, true, true, true, true, true, true, true, false, true, true, true, false, false, false, false] rfl rfl (by kernel_rfl) (fun _ _ _ h => h) (yields_num (g := w.heap.size) (o := 0) (n := m) (by rfl) (.tmp 3) rfl rfl (fun w' hS => (HM.out.below hS HM.out.size).range)) hHeld ?_ ?_
    rotate_left
    · simp only [Act.put, List.setIfInBounds_toArray, List.set_cons_zero, List.set_cons_succ, i64_w, i32_w]
      rfl
    refine one_ (i := 27) (N := some 70) #[true, true, true, true, true, true, true, true, true, true, true, true, true, true, true, true, true, true, true, true, true, true, true, true, true, true, true, true, true, true, true, false, false, false, false] rfl rfl (by kernel_rfl) (by decide) (fun K hK => ?_)
    refine goes_ Try.func23 (by kernel_rfl) rfl #[.pointer (some ⟨gf, 0, none⟩), numV a, numV b] (by rfl) rfl rfl (by simp only [List.map_toArray, List.map_cons, List.map_nil]; rfl) ?_
    with_reducible refine (HP1.out _ _ (HF.out.below hHeld HF.out.size)).mono ?_
    rintro e x4 ⟨rfl, hy4⟩
    refine ⟨_, rfl, ?_⟩
    refine hK.out _ _ (hHeld.trans (hy4.mono hHeld.size)) (fun hHeld => ?_)
    clear hK K
    refine norm_ (a' := ?_) ?_ ?_
    rotate_left
    · show Act.put _ (some 70) _ = _
      simp only [Act.put, List.setIfInBounds_toArray, List.set_cons_zero, List.set_cons_succ, i64_w, i32_w]
      rfl
    refine one_ (i := 31) (N := some 74) #[true, true, true, true, true, true, true, true, true, true, true, true, true, true, true, true, true, true, true, true, true, true, true, true, true, true, true, true, true, true, true, true, false, false, false] rfl rfl (by kernel_rfl) (by decide) (fun K hK => ?_)
    refine goes_ Try.func24 (by kernel_rfl) rfl #[numV x, numV y, numV m] (by rfl) rfl rfl (by simp only [List.map_toArray, List.map_cons, List.map_nil]; rfl) ?_
    with_reducible refine (HP2.out _).mono ?_
    rintro e x5 ⟨rfl, hy5⟩
    refine ⟨_, rfl, ?_⟩
    refine hK.out _ _ (hHeld.trans (hy5.mono hHeld.size)) (fun hHeld => ?_)
    clear hK K
    refine norm_ (a' := ?_) ?_ ?_
    rotate_left
    · show Act.put _ (some 74) _ = _
      simp only [Act.put, List.setIfInBounds_toArray, List.set_cons_zero, List.set_cons_succ, i64_w, i32_w]
      rfl
    refine pure_ (i := 32) (N := some 75) (v := ?_) (a' := ?_) #[true, true, true, true, true, true, true, true, true, true, true, true, true, true, true, true, true, true, true, true, true, true, true, true, true, true, true, true, true, true, true, true, true, false, false] rfl rfl (by kernel_rfl) (fun _ _ _ h => h) (Or.inl ⟨by rfl, ?_⟩) ?_ ?_
    rotate_left
    · intro w'
      go_simp
      with_reducible rfl
    rotate_left
    · simp only [Act.put, List.setIfInBounds_toArray, List.set_cons_zero, List.set_cons_succ, i64_w, i32_w]
      rfl
    refine pure_ (i := 33) (N := some 76) (v := ?_) (a' := ?_) #[true, true, true, true, true, true, true, true, true, true, true, true, true, true, true, true, true, true, true, true, true, true, true, true, true, true, true, true, true, true, true, true, true, true, false] rfl rfl (by kernel_rfl) (fun _ _ _ h => h) (Or.inl ⟨by rfl, ?_⟩) ?_ ?_
    rotate_left
    · intro w'
      go_simp
      with_reducible rfl
    rotate_left
    · simp only [Act.put, List.setIfInBounds_toArray, List.set_cons_zero, List.set_cons_succ, i64_w, i32_w]
      rfl
    refine pure_ (i := 34) (N := some 6) (v := ?_) (a' := ?_) #[true, true, true, true, true, true, true, true, true, true, true, true, true, true, true, true, true, true, true, true, true, true, true, true, true, true, true, true, true, true, true, true, true, true, true] rfl rfl (by kernel_rfl) (fun _ _ _ h => h) (Or.inl ⟨by rfl, ?_⟩) ?_ ?_
    rotate_left
    · intro w'
      go_simp
      with_reducible rfl
    rotate_left
    · simp only [Act.put, List.setIfInBounds_toArray, List.set_cons_zero, List.set_cons_succ, i64_w, i32_w]
      rfl
    refine done_ (by kernel_rfl) ?_
    go_wp2
    go_ret
    exact ⟨rfl, bl_on HB.out hHeld HB.out.size⟩
  · have HN := Aside0.mk (fun u => fnew_none m u hm hok)
    rw [decide_eq_false hok] at HOD
    clear hok hm ha hb
    go_enter Try.func5, Try.ntmps5
    go_upto_region 1 with (fail)
    refine wp_at (w2 := (World.alloc (World.alloc (World.alloc w (.cells (nw m).toArray 24)) (.cells (nw a).toArray 24)) (.cells (nw b).toArray 24))) rfl ?_
    obtain ⟨x_0, e_0, h_0, b_0, s_0⟩ := new_num w m
    obtain ⟨x_1, e_1, h_1, b_1, s_1⟩ := new_num x_0 a
    obtain ⟨x_2, e_2, h_2, b_2, s_2⟩ := new_num x_1 b
    rw [e_0, e_1, e_2]
    rw [s_0] at h_1 s_1
    rw [s_1] at h_2 s_2
    have HB : Aside0 (Below w.heap.size w x_2) := Aside0.mk (bl_both (bl_both b_0 b_1) b_2)
    have HM : Aside0 (NAt x_2 (w.heap.size) m) := Aside0.mk ((h_0.on b_1).on b_2)
    have HA : Aside0 (NAt x_2 (w.heap.size + 1) a) := Aside0.mk (h_1.on b_2)
    have HB2 : Aside0 (NAt x_2 (w.heap.size + 1 + 1) b) := Aside0.mk h_2
    have HS : Aside0 (w.heap.size + 1 + 1 + 1 ≤ x_2.heap.size) := Aside0.mk (Nat.le_of_eq s_2.symm)
    clear e_0 h_0 b_0 s_0 e_1 h_1 b_1 s_1 e_2 h_2 b_2 s_2
    obtain ⟨w1, hw_⟩ : ∃ x, x = x_2 := ⟨_, rfl⟩
    subst hw_
    clear x_0 x_1
    go_upto_region 2 with (first | ((with_reducible refine gate_callee (f := 10) rfl ?_); refine goesL_ (some 13) rfl rfl Try.func10 (by kernel_rfl) rfl #[] rfl (by (try simp only [List.map_toArray, List.map_cons, List.map_nil]); first | done | rfl) ?_; (with_reducible refine (up2_calls _).mono ?_); rintro e u1 ⟨rfl, hb1⟩; replace HM := Aside0.mk (HM.out.on hb1); replace HA := Aside0.mk (HA.out.on hb1); replace HB2 := Aside0.mk (HB2.out.on hb1); replace HB := Aside0.mk (bl_on HB.out hb1 HB.out.size); replace HS := Aside0.mk (Nat.le_trans HS.out hb1.size); clear hb1; refine ⟨_, rfl, ?_⟩))
    go_upto_region 3 with (first | ((with_reducible refine gate_dst (N := 15) rfl ?_); refine ld_num (HM.out.range) rfl _ rfl rfl ?_) | ((with_reducible refine gate_callee (f := 11) rfl ?_); refine goesL_ (some 16) rfl rfl Try.func11 (by kernel_rfl) rfl #[numV m] rfl (by (try simp only [List.map_toArray, List.map_cons, List.map_nil]); first | done | rfl) ?_; (with_reducible refine (HN.out _).mono ?_); rintro e u2 ⟨rfl, hb2⟩; replace HM := Aside0.mk (HM.out.on hb2); replace HA := Aside0.mk (HA.out.on hb2); replace HB2 := Aside0.mk (HB2.out.on hb2); replace HB := Aside0.mk (bl_on HB.out hb2 HB.out.size); replace HS := Aside0.mk (Nat.le_trans HS.out hb2.size); clear hb2; refine ⟨_, rfl, ?_⟩))
    go_wp2_with (first | ((with_reducible refine gate_dst (N := 19) rfl ?_); refine ld_num (HM.out.range) rfl _ rfl rfl ?_) | ((with_reducible refine gate_callee (f := 12) rfl ?_); refine goesL_ (some 20) rfl rfl Try.func12 (by kernel_rfl) rfl #[numV m] rfl (by (try simp only [List.map_toArray, List.map_cons, List.map_nil]); first | done | rfl) ?_; (with_reducible refine (HOD.out _).mono ?_); rintro e u3 ⟨rfl, hb3⟩; replace HM := Aside0.mk (HM.out.on hb3); replace HA := Aside0.mk (HA.out.on hb3); replace HB2 := Aside0.mk (HB2.out.on hb3); replace HB := Aside0.mk (bl_on HB.out hb3 HB.out.size); replace HS := Aside0.mk (Nat.le_trans HS.out hb3.size); clear hb3; refine ⟨_, rfl, ?_⟩))
    go_ret
    exact ⟨rfl, HB.out⟩
end Go.Proofs.Ytojjbcjndgekmaa
