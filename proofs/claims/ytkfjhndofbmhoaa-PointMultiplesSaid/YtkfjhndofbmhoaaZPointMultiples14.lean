/- What the proof of PointMultiples is made of, part 14. -/
import Derived.Test.YtkfjhndofbmhoaaZPointMultiples10
import Derived.Test.YtkfjhndofbmhoaaZPointMultiples13
import Derived.Test.YtkfjhndofbmhoaaZPointMultiplesh
namespace Go.Proofs.Ytkfjhndofbmhoaa
open Go.RowKit Go.Proofs.Ytkfjhndofbmhoaa.Arr Go.Proofs.YtkfjhndofbmhoaaW.PrintWords Go.Proofs.YtkfjhndofbmhoaaW.PrintLast Go.Proofs.YtkfjhndofbmhoaaW.PrintMore
set_option linter.unusedVariables false
set_option linter.unusedSimpArgs false
theorem wide_num (a : Nat) (h : a < N256) : (.agg #[.int .u64 (wd0 a : Nat), .int .u64 (wd1 a : Nat), .int .u64 (wd2 a : Nat), .int .u64 (wd3 a : Nat), .int .u64 0, .int .u64 0, .int .u64 0, .int .u64 0] : Value) = wideV a := by
  have h4 : wd4 a = 0 := by unfold wd4; rw [Nat.div_eq_of_lt (by unfold N256 at h; exact h)]
  have h5 : wd5 a = 0 := by unfold wd5; rw [Nat.div_eq_of_lt (by unfold N256 at h; omega)]
  have h6 : wd6 a = 0 := by unfold wd6; rw [Nat.div_eq_of_lt (by unfold N256 at h; omega)]
  have h7 : wd7 a = 0 := by unfold wd7; rw [Nat.div_eq_of_lt (by unfold N256 at h; omega)]
  rw [wideV_def, h4, h5, h6, h7]
  rfl
theorem n256_512 {a : Nat} (h : a < N256) : a < N512 := by unfold N256 at h; unfold N512; omega
theorem cmp_pos {a b : Nat} (h : ¬ a < b) : decide (cmpI a b < (0 : Int)) = false := decide_eq_false (Int.not_lt.2 (cmp_ge (by omega)))
theorem cmp_neg {a b : Nat} (h : a < b) : decide (cmpI a b < (0 : Int)) = true := decide_eq_true (cmp_lt (by omega))
theorem less_sum (m x y : Nat) (hx : x < m) (hy : y < m) (hm : m < N256) : lessN m ((x + y) % N256) (decide (N256 ≤ x + y)) = (x + y) % m := by
  unfold lessN
  by_cases h1 : N256 ≤ x + y
  · rw [if_pos (Or.inl (by simpa using h1)), Nat.mod_eq_sub_mod h1, Nat.mod_eq_of_lt (a := x + y - N256) (by omega), show x + y - N256 + N256 - m = x + y - m by omega, Nat.mod_eq_of_lt (a := x + y - m) (by omega), Nat.mod_eq_sub_mod (by omega), Nat.mod_eq_of_lt (by omega)]
  · rw [Nat.mod_eq_of_lt (a := x + y) (by omega)]
    by_cases h2 : m ≤ x + y
    · rw [if_pos (Or.inr h2), show x + y + N256 - m = x + y - m + N256 by omega, Nat.add_mod_right, Nat.mod_eq_of_lt (a := x + y - m) (by omega), Nat.mod_eq_sub_mod (by omega), Nat.mod_eq_of_lt (by omega)]
    · rw [if_neg (by intro h; rcases h with h | h; · exact h1 (by simpa using h)
                     · exact h2 h), Nat.mod_eq_of_lt (by omega)]
set_option maxRecDepth 100000 in
set_option maxHeartbeats 8000000 in
/-- (*field.Field).in -/
theorem fin_calls {gf m t o s : Nat} (a : Nat) (w : World) (hF : FAt w gf m t o s) (hm : m < N256) (h0 : 0 < m) (ha : a < N256) :
    Calls Try.prog 71 #[.pointer (some ⟨gf, 0, none⟩), numV a] w fun e w' => e = .returned (numV (a % m)) ∧ Below w.heap.size w w' := by
  have HG : Aside0 (gf < w.heap.size) := Aside0.mk hF.size
  have HC := Aside0.mk (fun u => cmp_calls (IsNum.mk ha) (IsNum.mk hm) u)
  have HU := Aside0.mk (fun (u : World) (h : FAt u gf m t o s) => fcut_calls a u h hm h0 (n256_512 ha))
  have HW := Aside0.mk (wide_num a ha)
  by_cases hlt : a < m
  · have HR : Aside0 (a % m = a) := Aside0.mk (Nat.mod_eq_of_lt hlt)
    have d := cmp_neg hlt
    generalize cmpI a m = c at *
    rw [HR.out]
    rw [numV_def a]
    clear hlt
    go_enter Try.func71, Try.ntmps71
    go_upto_region 1 with (fail)
    refine wp_at (w2 := (World.alloc (World.alloc w (.cells (nw a).toArray 24)) (.cells (nw 0).toArray 24))) rfl ?_
    obtain ⟨x_0, e_0, h_0, b_0, s_0⟩ := new_num w a
    obtain ⟨x_1, e_1, h_1, b_1, s_1⟩ := new_num x_0 0
    rw [e_0, e_1]
    rw [s_0] at h_1 s_1
    have HB : Aside0 (Below w.heap.size w x_1) := Aside0.mk (bl_both b_0 b_1)
    have HA : Aside0 (NAt x_1 (w.heap.size) a) := Aside0.mk (h_0.on b_1)
    have HO : Aside0 (NAt x_1 (w.heap.size + 1) 0) := Aside0.mk h_1
    have HS : Aside0 (w.heap.size + 1 + 1 ≤ x_1.heap.size) := Aside0.mk (Nat.le_of_eq s_1.symm)
    have HF := Aside0.mk (hF.on HB.out)
    clear e_0 h_0 b_0 s_0 e_1 h_1 b_1 s_1 hF
    obtain ⟨w1, hw_⟩ : ∃ x, x = x_1 := ⟨_, rfl⟩
    subst hw_
    clear x_0
    refine start_ (n := 7) (S := fun w' => Below w1.heap.size w1 w') (ds := []) (bs 7 0) (by kernel_rfl) rfl rfl ((Below.refl _ _).drew) (fun hHeld => ?_)
    refine pu_ 1 6 (bs 7 2) ?_ ?_ ?_ ?_ ?_
    rotate_left
    · intro w'
      go_simp
      with_reducible rfl
    rotate_left
    · simp only [aS, i64_w, i32_w]
      rfl
    refine pu_ 2 7 (bs 7 6) ?_ ?_ ?_ ?_ ?_
    rotate_left
    · intro w'
      go_simp
      with_reducible rfl
    rotate_left
    · simp only [aS, i64_w, i32_w]
      rfl
    refine pu_ 3 8 (bs 7 14) ?_ ?_ ?_ ?_ ?_
    rotate_left
    · intro w'
      go_simp
      with_reducible rfl
    rotate_left
    · simp only [aS, i64_w, i32_w]
      rfl
    refine take_ (i := 0) (N := some 5) (a' := ?_) (bs 7 15) rfl rfl (by kernel_rfl) (fun _ _ _ h => h) (yields_num (g := w.heap.size) (o := 0) (n := a) (by rfl) (.tmp 3) rfl rfl (fun w' hS => (HA.out.below hS HA.out.size).range)) hHeld ?_ ?_
    rotate_left
    · simp only [aS, i64_w, i32_w]
      rfl
    refine take_ (i := 4) (N := some 9) (a' := ?_) (bs 7 31) rfl rfl (by kernel_rfl) (fun _ _ _ h => h) (yields_num (g := gf) (o := 0) (n := m) (by rfl) (.tmp 8) rfl rfl (fun w' hS => (HF.out.below hS HF.out.size).range0)) hHeld ?_ ?_
    rotate_left
    · simp only [aS, i64_w, i32_w]
      rfl
    refine on1_ 5 (some 10) (bs 7 63) rfl fun K hK => ?_
    refine gs_ Try.func54 #[numV a, numV m] rfl ?_
    with_reducible refine (HC.out _).mono ?_
    rintro e u1 ⟨rfl, hb1⟩
    refine ⟨_, rfl, ?_⟩
    refine hK.out _ _ (hHeld.trans (hb1.mono hHeld.size)) (fun hHeld => ?_)
    clear hK K
    refine nm_ (some 10) ?_
    refine pu_ 6 11 (bs 7 127) ?_ ?_ ?_ ?_ ?_
    rotate_left
    · intro w'
      go_simp
      with_reducible rfl
    rotate_left
    · simp only [aS, i64_w, i32_w]
      rfl
    refine done_ (by kernel_rfl) ?_
    replace HA := Aside0.mk (HA.out.on hHeld)
    replace HO := Aside0.mk (HO.out.on hHeld)
    replace HF := Aside0.mk (HF.out.on hHeld)
    replace HB := Aside0.mk (bl_on HB.out hHeld HB.out.size)
    replace HS := Aside0.mk (Nat.le_trans HS.out hHeld.size)
    clear hHeld hb1 d
    go_wp2_with (first | ((with_reducible refine gate_dst (N := 12) rfl ?_); refine ld_num (HA.out.range) rfl _ rfl rfl ?_) | ((with_reducible refine gate_st (y := .tmp 12) rfl ?_); refine st_num (HO.out) rfl _ _ rfl rfl rfl ?_; intro u4 hA4 hT4; replace HA := Aside0.mk (HA.out.but hT4 (by omega)); replace HF := Aside0.mk (HF.out.but hT4 (by have := HG.out; omega)); replace HO := Aside0.mk hA4; replace HB := Aside0.mk (bl_but HB.out hT4 HB.out.size (by omega)); replace HS := Aside0.mk (Nat.le_trans HS.out hT4.size); clear hA4 hT4))
    exact bodyPost_ret (v := numV a) (results_nat rfl rfl HO.out) rfl ⟨by rw [numV_def], HB.out⟩
  · have d := cmp_pos hlt
    generalize cmpI a m = c at *
    generalize a % m = r at *
    rw [numV_def a]
    clear hlt
    go_enter Try.func71, Try.ntmps71
    go_upto_region 1 with (fail)
    refine wp_at (w2 := (World.alloc (World.alloc w (.cells (nw a).toArray 24)) (.cells (nw 0).toArray 24))) rfl ?_
    obtain ⟨x_0, e_0, h_0, b_0, s_0⟩ := new_num w a
    obtain ⟨x_1, e_1, h_1, b_1, s_1⟩ := new_num x_0 0
    rw [e_0, e_1]
    rw [s_0] at h_1 s_1
    have HB : Aside0 (Below w.heap.size w x_1) := Aside0.mk (bl_both b_0 b_1)
    have HA : Aside0 (NAt x_1 (w.heap.size) a) := Aside0.mk (h_0.on b_1)
    have HO : Aside0 (NAt x_1 (w.heap.size + 1) 0) := Aside0.mk h_1
    have HS : Aside0 (w.heap.size + 1 + 1 ≤ x_1.heap.size) := Aside0.mk (Nat.le_of_eq s_1.symm)
    have HF := Aside0.mk (hF.on HB.out)
    clear e_0 h_0 b_0 s_0 e_1 h_1 b_1 s_1 hF
    obtain ⟨w1, hw_⟩ : ∃ x, x = x_1 := ⟨_, rfl⟩
    subst hw_
    clear x_0
    refine start_ (n := 7) (S := fun w' => Below w1.heap.size w1 w') (ds := []) (bs 7 0) (by kernel_rfl) rfl rfl ((Below.refl _ _).drew) (fun hHeld => ?_)
    refine pu_ 1 6 (bs 7 2) ?_ ?_ ?_ ?_ ?_
    rotate_left
    · intro w'
      go_simp
      with_reducible rfl
    rotate_left
    · simp only [aS, i64_w, i32_w]
      rfl
    refine pu_ 2 7 (bs 7 6) ?_ ?_ ?_ ?_ ?_
    rotate_left
    · intro w'
      go_simp
      with_reducible rfl
    rotate_left
    · simp only [aS, i64_w, i32_w]
      rfl
    refine pu_ 3 8 (bs 7 14) ?_ ?_ ?_ ?_ ?_
    rotate_left
    · intro w'
      go_simp
      with_reducible rfl
    rotate_left
    · simp only [aS, i64_w, i32_w]
      rfl
    refine take_ (i := 0) (N := some 5) (a' := ?_) (bs 7 15) rfl rfl (by kernel_rfl) (fun _ _ _ h => h) (yields_num (g := w.heap.size) (o := 0) (n := a) (by rfl) (.tmp 3) rfl rfl (fun w' hS => (HA.out.below hS HA.out.size).range)) hHeld ?_ ?_
    rotate_left
    · simp only [aS, i64_w, i32_w]
      rfl
    refine take_ (i := 4) (N := some 9) (a' := ?_) (bs 7 31) rfl rfl (by kernel_rfl) (fun _ _ _ h => h) (yields_num (g := gf) (o := 0) (n := m) (by rfl) (.tmp 8) rfl rfl (fun w' hS => (HF.out.below hS HF.out.size).range0)) hHeld ?_ ?_
    rotate_left
    · simp only [aS, i64_w, i32_w]
      rfl
    refine on1_ 5 (some 10) (bs 7 63) rfl fun K hK => ?_
    refine gs_ Try.func54 #[numV a, numV m] rfl ?_
    with_reducible refine (HC.out _).mono ?_
    rintro e u1 ⟨rfl, hb1⟩
    refine ⟨_, rfl, ?_⟩
    refine hK.out _ _ (hHeld.trans (hb1.mono hHeld.size)) (fun hHeld => ?_)
    clear hK K
    refine nm_ (some 10) ?_
    refine pu_ 6 11 (bs 7 127) ?_ ?_ ?_ ?_ ?_
    rotate_left
    · intro w'
      go_simp
      with_reducible rfl
    rotate_left
    · simp only [aS, i64_w, i32_w]
      rfl
    refine done_ (by kernel_rfl) ?_
    replace HA := Aside0.mk (HA.out.on hHeld)
    replace HO := Aside0.mk (HO.out.on hHeld)
    replace HF := Aside0.mk (HF.out.on hHeld)
    replace HB := Aside0.mk (bl_on HB.out hHeld HB.out.size)
    replace HS := Aside0.mk (Nat.le_trans HS.out hHeld.size)
    clear hHeld hb1 d
    obtain ⟨ca0, ca1, ca2, ca3⟩ := HA.out.cell
    go_wp2_with (first | ((with_reducible refine gate_callee (f := 69) rfl ?_); refine goesL_ (some 23) rfl rfl Try.func69 (by kernel_rfl) rfl #[.pointer (some ⟨gf, 0, none⟩), wideV a] rfl (by (try rw [← HW.out]); (try simp only [List.map_toArray, List.map_cons, List.map_nil]); first | done | rfl) ?_; (with_reducible refine (HU.out _ HF.out).mono ?_); rintro e u2 ⟨rfl, hb2⟩; clear ca0 ca1 ca2 ca3; replace HA := Aside0.mk (HA.out.on hb2); replace HO := Aside0.mk (HO.out.on hb2); replace HF := Aside0.mk (HF.out.on hb2); replace HB := Aside0.mk (bl_on HB.out hb2 HB.out.size); replace HS := Aside0.mk (Nat.le_trans HS.out hb2.size); clear hb2; refine ⟨_, rfl, ?_⟩) | ((with_reducible refine gate_st (y := .tmp 23) rfl ?_); refine st_num (HO.out) rfl _ _ rfl rfl rfl ?_; intro u4 hA4 hT4; replace HA := Aside0.mk (HA.out.but hT4 (by omega)); replace HF := Aside0.mk (HF.out.but hT4 (by have := HG.out; omega)); replace HO := Aside0.mk hA4; replace HB := Aside0.mk (bl_but HB.out hT4 HB.out.size (by omega)); replace HS := Aside0.mk (Nat.le_trans HS.out hT4.size); clear hA4 hT4))
    exact bodyPost_ret (v := numV r) (results_nat rfl rfl HO.out) rfl ⟨rfl, HB.out⟩
set_option maxRecDepth 100000 in
set_option maxHeartbeats 8000000 in
/-- (*field.Field).Add -/
theorem fieldadd_calls {gf m t o s : Nat} (a b : Nat) (w : World) (hF : FAt w gf m t o s) (hm : m < N256) (h0 : 0 < m) (ha : a < N256) (hb : b < N256) :
    Calls Try.prog 51 #[.pointer (some ⟨gf, 0, none⟩), numV a, numV b] w fun e w' => e = .returned (numV ((a % m + b % m) % m)) ∧ Below w.heap.size w w' := by
  have HG : Aside0 (gf < w.heap.size) := Aside0.mk hF.size
  have HI1 := Aside0.mk (fun (u : World) (h : FAt u gf m t o s) => fin_calls a u h hm h0 ha)
  have HI2 := Aside0.mk (fun (u : World) (h : FAt u gf m t o s) => fin_calls b u h hm h0 hb)
  have hx := Nat.mod_lt a h0
  have hy := Nat.mod_lt b h0
  have HSP := Aside0.mk (less_sum m (a % m) (b % m) hx hy hm)
  rw [numV_def a, numV_def b]
  generalize a % m = x at *
  generalize b % m = y at *
  have HC := Aside0.mk (fun u => add_calls (IsNum.mk (Nat.lt_trans hx hm)) (IsNum.mk (Nat.lt_trans hy hm)) u)
  obtain ⟨n, hn⟩ : ∃ n, n = (x + y) % N256 := ⟨_, rfl⟩
  obtain ⟨D, hD⟩ : ∃ D, D = decide (N256 ≤ x + y) := ⟨_, rfl⟩
  have hnN : n < N256 := by rw [hn]; exact Nat.mod_lt _ N256_pos
  rw [← hn, ← hD] at HC HSP
  have HL := Aside0.mk (fun (u : World) (h : FAt u gf m t o s) => fless_calls n D u h hnN hm)
  rw [HSP.out] at HL
  generalize (x + y) % m = r at *
  clear hn hD hnN HSP hx hy hm h0 ha hb
  go_enter Try.func51, Try.ntmps51
  go_upto_region 1 with (fail)
  refine wp_at (w2 := (World.alloc (World.alloc (World.alloc w (.cells (nw a).toArray 24)) (.cells (nw b).toArray 24)) (.cells (nw 0).toArray 24))) rfl ?_
  obtain ⟨x_0, e_0, h_0, b_0, s_0⟩ := new_num w a
  obtain ⟨x_1, e_1, h_1, b_1, s_1⟩ := new_num x_0 b
  obtain ⟨x_2, e_2, h_2, b_2, s_2⟩ := new_num x_1 0
  rw [e_0, e_1, e_2]
  rw [s_0] at h_1 s_1
  rw [s_1] at h_2 s_2
  have HB : Aside0 (Below w.heap.size w x_2) := Aside0.mk (bl_both (bl_both b_0 b_1) b_2)
  have HA : Aside0 (NAt x_2 (w.heap.size) a) := Aside0.mk ((h_0.on b_1).on b_2)
  have HB2 : Aside0 (NAt x_2 (w.heap.size + 1) b) := Aside0.mk (h_1.on b_2)
  have HO : Aside0 (NAt x_2 (w.heap.size + 1 + 1) 0) := Aside0.mk h_2
  have HS : Aside0 (w.heap.size + 1 + 1 + 1 ≤ x_2.heap.size) := Aside0.mk (Nat.le_of_eq s_2.symm)
  have HF := Aside0.mk (hF.on HB.out)
  clear e_0 h_0 b_0 s_0 e_1 h_1 b_1 s_1 e_2 h_2 b_2 s_2 hF
  obtain ⟨w1, hw_⟩ : ∃ x, x = x_2 := ⟨_, rfl⟩
  subst hw_
  clear x_0 x_1
  refine start_ (n := 13) (S := fun w' => Below w1.heap.size w1 w') (ds := [11]) (bs 13 0) (by kernel_rfl) rfl rfl ((Below.refl _ _).drew) (fun hHeld => ?_)
  refine pu_ 0 10 (bs 13 1) ?_ ?_ ?_ ?_ ?_
  rotate_left
  · intro w'
    go_simp
    with_reducible rfl
  rotate_left
  · simp only [aS, i64_w, i32_w]
    rfl
  refine pu_ 3 13 (bs 13 9) ?_ ?_ ?_ ?_ ?_
  rotate_left
  · intro w'
    go_simp
    with_reducible rfl
  rotate_left
  · simp only [aS, i64_w, i32_w]
    rfl
  refine take_ (i := 1) (N := some 11) (a' := ?_) (bs 13 11) rfl rfl (by kernel_rfl) (fun _ _ _ h => h) (yields_num (g := w.heap.size) (o := 0) (n := a) (by rfl) (.tmp 4) rfl rfl (fun w' hS => (HA.out.below hS HA.out.size).range)) hHeld ?_ ?_
  rotate_left
  · simp only [aS, i64_w, i32_w]
    rfl
  refine take_ (i := 4) (N := some 14) (a' := ?_) (bs 13 27) rfl rfl (by kernel_rfl) (fun _ _ _ h => h) (yields_num (g := w.heap.size + 1) (o := 0) (n := b) (by rfl) (.tmp 5) rfl rfl (fun w' hS => (HB2.out.below hS HB2.out.size).range)) hHeld ?_ ?_
  rotate_left
  · simp only [aS, i64_w, i32_w]
    rfl
  refine join_ (σ := Nat) 2 (bs 13 2047) (fun s => [(7, .pointer (some ⟨s, 0, none⟩)), (12, numV x), (15, numV y), (16, .tuple #[numV n, .bool D]), (9, .tuple #[numV n, .bool D]), (17, numV n), (18, .bool D)]) (fun s w' => Below w1.heap.size w1 w' ∧ NAt w' s 0 ∧ w1.heap.size ≤ s) ?_ ?_
  rotate_left
  · intro hCont
    refine tw_ 2 10 (some 12) (some 7) (bs 13 31) (bs 13 1051) rfl rfl (fun K hK => ?_) (fun K hK => ?_)
    · skip
      refine gs_ Try.func71 #[.pointer (some ⟨gf, 0, none⟩), numV a] rfl ?_
      with_reducible refine (HI1.out _ (HF.out.below hHeld HF.out.size)).mono ?_
      rintro e u1 ⟨rfl, hb_u1⟩
      refine ⟨_, rfl, ?_⟩
      refine hK.out _ _ (bl_on hHeld hb_u1 hHeld.size) (fun hHeld => ?_)
      clear hK K
      refine nm_ (some 12) ?_
      refine tw_ 5 10 (some 15) (some 7) (bs 13 63) (bs 13 1055) rfl rfl (fun K hK => ?_) (fun K hK => ?_)
      · skip
        refine gs_ Try.func71 #[.pointer (some ⟨gf, 0, none⟩), numV b] rfl ?_
        with_reducible refine (HI2.out _ (HF.out.below hHeld HF.out.size)).mono ?_
        rintro e u2 ⟨rfl, hb_u2⟩
        refine ⟨_, rfl, ?_⟩
        refine hK.out _ _ (bl_on hHeld hb_u2 hHeld.size) (fun hHeld => ?_)
        clear hK K
        refine nm_ (some 15) ?_
        refine tw_ 6 10 (some 16) (some 7) (bs 13 127) (bs 13 1087) rfl rfl (fun K hK => ?_) (fun K hK => ?_)
        · skip
          refine gs_ Try.func24 #[numV x, numV y] rfl ?_
          with_reducible refine (HC.out _).mono ?_
          rintro e u3 ⟨rfl, hb_u3⟩
          refine ⟨_, rfl, ?_⟩
          refine hK.out _ _ (bl_on hHeld hb_u3 hHeld.size) (fun hHeld => ?_)
          clear hK K
          refine nm_ (some 16) ?_
          refine pu_ 7 9 (bs 13 255) ?_ ?_ ?_ ?_ ?_
          rotate_left
          · intro w'
            go_simp
            with_reducible rfl
          rotate_left
          · simp only [aS, i64_w, i32_w]
            rfl
          refine pu_ 8 17 (bs 13 511) ?_ ?_ ?_ ?_ ?_
          rotate_left
          · intro w'
            go_simp
            with_reducible rfl
          rotate_left
          · simp only [aS, i64_w, i32_w]
            rfl
          refine pu_ 9 18 (bs 13 1023) ?_ ?_ ?_ ?_ ?_
          rotate_left
          · intro w'
            go_simp
            with_reducible rfl
          rotate_left
          · simp only [aS, i64_w, i32_w]
            rfl
          refine on1_ 10 (some 7) (bs 13 2047) rfl fun K hK => ?_
          refine value_ (w1 := ?_) (v := ?_) (by rfl) rfl ?_ ?_
          rotate_left 2
          · go_simp
            constructor
            · rfl
            · rfl
          have hz : NAt (World.alloc u3 (.cells (nw 0).toArray 24)) (u3).heap.size 0 := Row.new u3 _ (nw 0)
          have hs : w1.heap.size ≤ (u3).heap.size := hHeld.size
          refine hK.out _ _ (below_alloc hHeld _) (fun hHeld => ?_)
          clear hK K
          refine nm_ (some 7) ?_
          exact norm_ (by simp only [putAll, aS]) (hCont (u3).heap.size _ ⟨hHeld, hz, hs⟩)
        · skip
          refine value_ (w1 := ?_) (v := ?_) (by rfl) rfl ?_ ?_
          rotate_left 2
          · go_simp
            constructor
            · rfl
            · rfl
          have hz : NAt (World.alloc u2 (.cells (nw 0).toArray 24)) (u2).heap.size 0 := Row.new u2 _ (nw 0)
          have hs : w1.heap.size ≤ (u2).heap.size := hHeld.size
          refine hK.out _ _ (below_alloc hHeld _) (fun hHeld => ?_)
          clear hK K
          refine nm_ (some 7) ?_
          refine on1_ 6 (some 16) (bs 13 1151) rfl fun K hK => ?_
          refine gs_ Try.func24 #[numV x, numV y] rfl ?_
          with_reducible refine (HC.out _).mono ?_
          rintro e u3 ⟨rfl, hb_u3⟩
          refine ⟨_, rfl, ?_⟩
          replace hz := hz.on hb_u3
          refine hK.out _ _ (bl_on hHeld hb_u3 hHeld.size) (fun hHeld => ?_)
          clear hK K
          refine nm_ (some 16) ?_
          refine pu_ 7 9 (bs 13 1279) ?_ ?_ ?_ ?_ ?_
          rotate_left
          · intro w'
            go_simp
            with_reducible rfl
          rotate_left
          · simp only [aS, i64_w, i32_w]
            rfl
          refine pu_ 8 17 (bs 13 1535) ?_ ?_ ?_ ?_ ?_
          rotate_left
          · intro w'
            go_simp
            with_reducible rfl
          rotate_left
          · simp only [aS, i64_w, i32_w]
            rfl
          refine pu_ 9 18 (bs 13 2047) ?_ ?_ ?_ ?_ ?_
          rotate_left
          · intro w'
            go_simp
            with_reducible rfl
          rotate_left
          · simp only [aS, i64_w, i32_w]
            rfl
          exact norm_ (by simp only [putAll, aS]) (hCont (u2).heap.size _ ⟨hHeld, hz, hs⟩)
      · skip
        refine value_ (w1 := ?_) (v := ?_) (by rfl) rfl ?_ ?_
        rotate_left 2
        · go_simp
          constructor
          · rfl
          · rfl
        have hz : NAt (World.alloc u1 (.cells (nw 0).toArray 24)) (u1).heap.size 0 := Row.new u1 _ (nw 0)
        have hs : w1.heap.size ≤ (u1).heap.size := hHeld.size
        refine hK.out _ _ (below_alloc hHeld _) (fun hHeld => ?_)
        clear hK K
        refine nm_ (some 7) ?_
        refine on1_ 5 (some 15) (bs 13 1087) rfl fun K hK => ?_
        refine gs_ Try.func71 #[.pointer (some ⟨gf, 0, none⟩), numV b] rfl ?_
        with_reducible refine (HI2.out _ (HF.out.below hHeld HF.out.size)).mono ?_
        rintro e u2 ⟨rfl, hb_u2⟩
        refine ⟨_, rfl, ?_⟩
        replace hz := hz.on hb_u2
        refine hK.out _ _ (bl_on hHeld hb_u2 hHeld.size) (fun hHeld => ?_)
        clear hK K
        refine nm_ (some 15) ?_
        refine on1_ 6 (some 16) (bs 13 1151) rfl fun K hK => ?_
        refine gs_ Try.func24 #[numV x, numV y] rfl ?_
        with_reducible refine (HC.out _).mono ?_
        rintro e u3 ⟨rfl, hb_u3⟩
        refine ⟨_, rfl, ?_⟩
        replace hz := hz.on hb_u3
        refine hK.out _ _ (bl_on hHeld hb_u3 hHeld.size) (fun hHeld => ?_)
        clear hK K
        refine nm_ (some 16) ?_
        refine pu_ 7 9 (bs 13 1279) ?_ ?_ ?_ ?_ ?_
        rotate_left
        · intro w'
          go_simp
          with_reducible rfl
        rotate_left
        · simp only [aS, i64_w, i32_w]
          rfl
        refine pu_ 8 17 (bs 13 1535) ?_ ?_ ?_ ?_ ?_
        rotate_left
        · intro w'
          go_simp
          with_reducible rfl
        rotate_left
        · simp only [aS, i64_w, i32_w]
          rfl
        refine pu_ 9 18 (bs 13 2047) ?_ ?_ ?_ ?_ ?_
        rotate_left
        · intro w'
          go_simp
          with_reducible rfl
        rotate_left
        · simp only [aS, i64_w, i32_w]
          rfl
        exact norm_ (by simp only [putAll, aS]) (hCont (u1).heap.size _ ⟨hHeld, hz, hs⟩)
    · skip
      refine value_ (w1 := ?_) (v := ?_) (by rfl) rfl ?_ ?_
      rotate_left 2
      · go_simp
        constructor
        · rfl
        · rfl
      have hz : NAt (World.alloc (World.drew w1) (.cells (nw 0).toArray 24)) ((World.drew w1)).heap.size 0 := Row.new (World.drew w1) _ (nw 0)
      have hs : w1.heap.size ≤ ((World.drew w1)).heap.size := hHeld.size
      refine hK.out _ _ (below_alloc hHeld _) (fun hHeld => ?_)
      clear hK K
      refine nm_ (some 7) ?_
      refine on1_ 2 (some 12) (bs 13 1055) rfl fun K hK => ?_
      refine gs_ Try.func71 #[.pointer (some ⟨gf, 0, none⟩), numV a] rfl ?_
      with_reducible refine (HI1.out _ (HF.out.below hHeld HF.out.size)).mono ?_
      rintro e u1 ⟨rfl, hb_u1⟩
      refine ⟨_, rfl, ?_⟩
      replace hz := hz.on hb_u1
      refine hK.out _ _ (bl_on hHeld hb_u1 hHeld.size) (fun hHeld => ?_)
      clear hK K
      refine nm_ (some 12) ?_
      refine on1_ 5 (some 15) (bs 13 1087) rfl fun K hK => ?_
      refine gs_ Try.func71 #[.pointer (some ⟨gf, 0, none⟩), numV b] rfl ?_
      with_reducible refine (HI2.out _ (HF.out.below hHeld HF.out.size)).mono ?_
      rintro e u2 ⟨rfl, hb_u2⟩
      refine ⟨_, rfl, ?_⟩
      replace hz := hz.on hb_u2
      refine hK.out _ _ (bl_on hHeld hb_u2 hHeld.size) (fun hHeld => ?_)
      clear hK K
      refine nm_ (some 15) ?_
      refine on1_ 6 (some 16) (bs 13 1151) rfl fun K hK => ?_
      refine gs_ Try.func24 #[numV x, numV y] rfl ?_
      with_reducible refine (HC.out _).mono ?_
      rintro e u3 ⟨rfl, hb_u3⟩
      refine ⟨_, rfl, ?_⟩
      replace hz := hz.on hb_u3
      refine hK.out _ _ (bl_on hHeld hb_u3 hHeld.size) (fun hHeld => ?_)
      clear hK K
      refine nm_ (some 16) ?_
      refine pu_ 7 9 (bs 13 1279) ?_ ?_ ?_ ?_ ?_
      rotate_left
      · intro w'
        go_simp
        with_reducible rfl
      rotate_left
      · simp only [aS, i64_w, i32_w]
        rfl
      refine pu_ 8 17 (bs 13 1535) ?_ ?_ ?_ ?_ ?_
      rotate_left
      · intro w'
        go_simp
        with_reducible rfl
      rotate_left
      · simp only [aS, i64_w, i32_w]
        rfl
      refine pu_ 9 18 (bs 13 2047) ?_ ?_ ?_ ?_ ?_
      rotate_left
      · intro w'
        go_simp
        with_reducible rfl
      rotate_left
      · simp only [aS, i64_w, i32_w]
        rfl
      exact norm_ (by simp only [putAll, aS]) (hCont w1.heap.size _ ⟨hHeld, hz, hs⟩)
  rintro g7 w5 ⟨hHeld, hz, hs⟩
  refine norm_ (a' := ?_) ?_ ?_
  rotate_left
  · simp only [putAll, aS]
    rfl
  refine last_ (i := 11) (N := none) (bs 13 4095) rfl rfl (by kernel_rfl) (by decide) (fun K hK => ?_)
  refine skip_num hz (by rfl) rfl (.tmp 7) (.tmp 17) rfl rfl rfl ?_
  intro u6 hA6 hT6
  refine hK.out _ _ ?_
  clear hK K
  refine pu_ 12 8 (bs 13 8191) ?_ ?_ ?_ ?_ ?_
  rotate_left
  · intro w'
    go_simp
    with_reducible rfl
  rotate_left
  · simp only [aS, i64_w, i32_w]
    rfl
  refine done_ (by kernel_rfl) ?_
  have HXg7 : Aside0 (w.heap.size + 1 + 1 + 1 ≤ g7) := Aside0.mk (Nat.le_trans HS.out hs)
  have HN := Aside0.mk hz
  replace HA := Aside0.mk (HA.out.on hHeld)
  replace HB2 := Aside0.mk (HB2.out.on hHeld)
  replace HO := Aside0.mk (HO.out.on hHeld)
  replace HF := Aside0.mk (HF.out.on hHeld)
  replace HB := Aside0.mk (bl_on HB.out hHeld HB.out.size)
  replace HS := Aside0.mk (Nat.le_trans HS.out hHeld.size)
  clear hHeld hs hz
  replace HA := Aside0.mk (HA.out.but hT6 (by have := HG.out; have := HXg7.out; omega))
  replace HB2 := Aside0.mk (HB2.out.but hT6 (by have := HG.out; have := HXg7.out; omega))
  replace HO := Aside0.mk (HO.out.but hT6 (by have := HG.out; have := HXg7.out; omega))
  replace HF := Aside0.mk (HF.out.but hT6 (by have := HG.out; have := HXg7.out; omega))
  replace HN := Aside0.mk hA6
  replace HB := Aside0.mk (bl_but HB.out hT6 HB.out.size (by have := HXg7.out; omega))
  replace HS := Aside0.mk (Nat.le_trans HS.out hT6.size)
  clear hA6 hT6
  clear HI1 HI2 HC
  go_wp2_with (first | ((with_reducible refine gate_dst (N := 20) rfl ?_); refine ld_num (HN.out.range) rfl _ rfl rfl ?_) | ((with_reducible refine gate_callee (f := 72) rfl ?_); refine goesL_ (some 22) rfl rfl Try.func72 (by kernel_rfl) rfl #[.pointer (some ⟨gf, 0, none⟩), numV n, .bool D] rfl (by (try simp only [List.map_toArray, List.map_cons, List.map_nil]); first | done | rfl) ?_; (with_reducible refine (HL.out _ HF.out).mono ?_); rintro e u7 ⟨rfl, hb7⟩; replace HA := Aside0.mk (HA.out.on hb7); replace HB2 := Aside0.mk (HB2.out.on hb7); replace HO := Aside0.mk (HO.out.on hb7); replace HF := Aside0.mk (HF.out.on hb7); replace HN := Aside0.mk (HN.out.on hb7); replace HB := Aside0.mk (bl_on HB.out hb7 HB.out.size); replace HS := Aside0.mk (Nat.le_trans HS.out hb7.size); clear hb7; refine ⟨_, rfl, ?_⟩) | ((with_reducible refine gate_st (y := .tmp 22) rfl ?_); refine st_num (HO.out) rfl _ _ rfl rfl rfl ?_; intro u8 hA8 hT8; replace HA := Aside0.mk (HA.out.but hT8 (by have := HG.out; have := HXg7.out; omega)); replace HB2 := Aside0.mk (HB2.out.but hT8 (by have := HG.out; have := HXg7.out; omega)); replace HF := Aside0.mk (HF.out.but hT8 (by have := HG.out; have := HXg7.out; omega)); replace HN := Aside0.mk (HN.out.but hT8 (by have := HG.out; have := HXg7.out; omega)); replace HO := Aside0.mk hA8; replace HB := Aside0.mk (bl_but HB.out hT8 HB.out.size (by omega)); replace HS := Aside0.mk (Nat.le_trans HS.out hT8.size); clear hA8 hT8))
  exact bodyPost_ret (v := numV r) (results_nat rfl rfl HO.out) rfl ⟨rfl, HB.out⟩
end Go.Proofs.Ytkfjhndofbmhoaa
