/- What the proof of PointMultiples is made of, part 19. -/
import Derived.Test.YtkfjhndofbmhoaaZPointMultiples14
import Derived.Test.YtkfjhndofbmhoaaZPointMultiplesh
namespace Go.Proofs.Ytkfjhndofbmhoaa
open Go.RowKit Go.Proofs.Ytkfjhndofbmhoaa.Arr Go.Proofs.YtkfjhndofbmhoaaW.PrintWords Go.Proofs.YtkfjhndofbmhoaaW.PrintLast Go.Proofs.YtkfjhndofbmhoaaW.PrintMore
set_option linter.unusedVariables false
set_option linter.unusedSimpArgs false
set_option maxRecDepth 100000 in
set_option maxHeartbeats 8000000 in
/-- (*field.Field).Sub -/
theorem fieldsub_calls {gf m t o s : Nat} (a b : Nat) (w : World) (hF : FAt w gf m t o s) (hm : m < N256) (h0 : 0 < m) (ha : a < N256) (hb : b < N256) :
  Calls Try.prog 52 #[.pointer (some ⟨gf, 0, none⟩), numV a, numV b] w fun e w' => e = .returned (numV ((a % m + m - b % m) % m)) ∧ Below w.heap.size w w' := by
 have HG : Aside0 (gf < w.heap.size) := Aside0.mk hF.size
 have HI1 := Aside0.mk (fun (u : World) (h : FAt u gf m t o s) => fin_calls a u h hm h0 ha)
 have HI2 := Aside0.mk (fun (u : World) (h : FAt u gf m t o s) => fin_calls b u h hm h0 hb)
 have hx := Nat.mod_lt a h0
 have hy := Nat.mod_lt b h0
 have HSP := Aside0.mk (fits_dif hx hy hm)
 rw [numV_def a, numV_def b]
 generalize a % m = x at *
 generalize b % m = y at *
 have HC := Aside0.mk (fun u => sub_calls (IsNum.mk (Nat.lt_trans hx hm)) (IsNum.mk (Nat.lt_trans hy hm)) u)
 obtain ⟨n, hn⟩ : ∃ n, n = (x + N256 - y) % N256 := ⟨_, rfl⟩
 obtain ⟨D, hD⟩ : ∃ D, D = decide (x < y) := ⟨_, rfl⟩
 have hnN : n < N256 := by rw [hn]; exact Nat.mod_lt _ N256_pos
 rw [← hn, ← hD] at HC
 rw [← hn] at HSP
 have HP := Aside0.mk (fun u => add_calls (IsNum.mk hnN) (IsNum.mk hm) u)
 obtain ⟨p, hp⟩ : ∃ p, p = (n + m) % N256 := ⟨_, rfl⟩
 rw [← hp] at HP HSP
 generalize decide (N256 ≤ n + m) = E at *
 generalize (x + m - y) % m = r at *
 have F1 : Aside0 (D = true → p = r) := Aside0.mk (fun h => HSP.out.1 (by rw [h] at hD; simpa using hD.symm))
 have F2 : Aside0 (D = false → n = r) := Aside0.mk (fun h => HSP.out.2 (by rw [h] at hD; simpa using hD.symm))
 clear hn hD hnN HSP hx hy hm h0 ha hb hp
 go_enter Try.func52, Try.ntmps52
 go_upto_region 1 with (fail)
 refine wp_at (w2 := (World.alloc (World.alloc (World.alloc w (.cells (nw a).toArray 24)) (.cells (nw b).toArray 24)) (.cells (nw 0).toArray 24))) rfl ?_
 obtain ⟨x_0, e_0, h_0, b_0, s_0⟩ := new_num w a
 obtain ⟨x_1, e_1, h_1, b_1, s_1⟩ := new_num x_0 b
 obtain ⟨x_2, e_2, h_2, b_2, s_2⟩ := new_num x_1 0
 rw [e_0, e_1, e_2]
 rw [s_0] at h_1 s_1
 rw [s_1] at h_2 s_2
 have HB : Aside0 (Below w.heap.size w x_2) := Aside0.mk (bl_both (bl_both b_0 b_1) b_2)
 have HA : Aside0 (NAt x_2 (w.heap.size) a) := Aside0.mk ((h_0.on b_1).on b_2)
 have HB2 : Aside0 (NAt x_2 (w.heap.size + 1) b) := Aside0.mk (h_1.on b_2)
 have HO : Aside0 (NAt x_2 (w.heap.size + 1 + 1) 0) := Aside0.mk h_2
 have HS : Aside0 (w.heap.size + 1 + 1 + 1 ≤ x_2.heap.size) := Aside0.mk (Nat.le_of_eq s_2.symm)
 have HF := Aside0.mk (hF.on HB.out)
 clear e_0 h_0 b_0 s_0 e_1 h_1 b_1 s_1 e_2 h_2 b_2 s_2 hF
 obtain ⟨w1, hw_⟩ : ∃ x, x = x_2 := ⟨_, rfl⟩
 subst hw_
 clear x_0 x_1
 refine start_ (n := 13) (S := fun w' => Below w1.heap.size w1 w') (ds := [11]) (bs 13 0) (by kernel_rfl) rfl rfl ((Below.refl _ _).drew) (fun hHeld => ?_)
 refine pu_ 0 10 (bs 13 1) ?_ ?_ ?_ ?_ ?_
 rotate_left
 ·intro w'
  go_simp
  with_reducible rfl
 rotate_left
 ·simp only [aS, i64_w, i32_w]
  rfl
 refine pu_ 3 13 (bs 13 9) ?_ ?_ ?_ ?_ ?_
 rotate_left
 ·intro w'
  go_simp
  with_reducible rfl
 rotate_left
 ·simp only [aS, i64_w, i32_w]
  rfl
 refine take_ (i := 1) (N := some 11) (a' := ?_) (bs 13 11) rfl rfl (by kernel_rfl) (fun _ _ _ h => h) (yields_num (g := w.heap.size) (o := 0) (n := a) (by rfl) (.tmp 4) rfl rfl (fun w' hS => (HA.out.below hS HA.out.size).range)) hHeld ?_ ?_
 rotate_left
 ·simp only [aS, i64_w, i32_w]
  rfl
 refine take_ (i := 4) (N := some 14) (a' := ?_) (bs 13 27) rfl rfl (by kernel_rfl) (fun _ _ _ h => h) (yields_num (g := w.heap.size + 1) (o := 0) (n := b) (by rfl) (.tmp 5) rfl rfl (fun w' hS => (HB2.out.below hS HB2.out.size).range)) hHeld ?_ ?_
 rotate_left
 ·simp only [aS, i64_w, i32_w]
  rfl
 refine join_ (σ := Nat) 2 (bs 13 2047) (fun s => [(7, .pointer (some ⟨s, 0, none⟩)), (12, numV x), (15, numV y), (16, .tuple #[numV n, .bool D]), (9, .tuple #[numV n, .bool D]), (17, numV n), (18, .bool D)]) (fun s w' => Below w1.heap.size w1 w' ∧ NAt w' s 0 ∧ w1.heap.size ≤ s) ?_ ?_
 rotate_left
 ·intro hCont
  refine tw_ 2 10 (some 12) (some 7) (bs 13 31) (bs 13 1051) rfl rfl (fun K hK => ?_) (fun K hK => ?_)
  ·skip
   refine gs_ Try.func71 #[.pointer (some ⟨gf, 0, none⟩), numV a] rfl ?_
   with_reducible refine (HI1.out _ (HF.out.below hHeld HF.out.size)).mono ?_
   rintro e u1 ⟨rfl, hb_u1⟩
   refine ⟨_, rfl, ?_⟩
   refine hK.out _ _ (bl_on hHeld hb_u1 hHeld.size) (fun hHeld => ?_)
   clear hK K
   refine nm_ (some 12) ?_
   refine tw_ 5 10 (some 15) (some 7) (bs 13 63) (bs 13 1055) rfl rfl (fun K hK => ?_) (fun K hK => ?_)
   ·skip
    refine gs_ Try.func71 #[.pointer (some ⟨gf, 0, none⟩), numV b] rfl ?_
    with_reducible refine (HI2.out _ (HF.out.below hHeld HF.out.size)).mono ?_
    rintro e u2 ⟨rfl, hb_u2⟩
    refine ⟨_, rfl, ?_⟩
    refine hK.out _ _ (bl_on hHeld hb_u2 hHeld.size) (fun hHeld => ?_)
    clear hK K
    refine nm_ (some 15) ?_
    refine tw_ 6 10 (some 16) (some 7) (bs 13 127) (bs 13 1087) rfl rfl (fun K hK => ?_) (fun K hK => ?_)
    ·skip
     refine gs_ Try.func73 #[numV x, numV y] rfl ?_
     with_reducible refine (HC.out _).mono ?_
     rintro e u3 ⟨rfl, hb_u3⟩
     refine ⟨_, rfl, ?_⟩
     refine hK.out _ _ (bl_on hHeld hb_u3 hHeld.size) (fun hHeld => ?_)
     clear hK K
     refine nm_ (some 16) ?_
     refine pu_ 7 9 (bs 13 255) ?_ ?_ ?_ ?_ ?_
     rotate_left
     ·intro w'
      go_simp
      with_reducible rfl
     rotate_left
     ·simp only [aS, i64_w, i32_w]
      rfl
     refine pu_ 8 17 (bs 13 511) ?_ ?_ ?_ ?_ ?_
     rotate_left
     ·intro w'
      go_simp
      with_reducible rfl
     rotate_left
     ·simp only [aS, i64_w, i32_w]
      rfl
     refine pu_ 9 18 (bs 13 1023) ?_ ?_ ?_ ?_ ?_
     rotate_left
     ·intro w'
      go_simp
      with_reducible rfl
     rotate_left
     ·simp only [aS, i64_w, i32_w]
      rfl
     refine on1_ 10 (some 7) (bs 13 2047) rfl fun K hK => ?_
     refine value_ (w1 := ?_) (v := ?_) (by rfl) rfl ?_ ?_
     rotate_left 2
     ·go_simp
      constructor
      ·rfl
      ·rfl
     have hz : NAt (World.alloc u3 (.cells (nw 0).toArray 24)) (u3).heap.size 0 := Row.new u3 _ (nw 0)
     have hs : w1.heap.size ≤ (u3).heap.size := hHeld.size
     refine hK.out _ _ (below_alloc hHeld _) (fun hHeld => ?_)
     clear hK K
     refine nm_ (some 7) ?_
     exact norm_ (by simp only [putAll, aS]) (hCont (u3).heap.size _ ⟨hHeld, hz, hs⟩)
    ·skip
     refine value_ (w1 := ?_) (v := ?_) (by rfl) rfl ?_ ?_
     rotate_left 2
     ·go_simp
      constructor
      ·rfl
      ·rfl
     have hz : NAt (World.alloc u2 (.cells (nw 0).toArray 24)) (u2).heap.size 0 := Row.new u2 _ (nw 0)
     have hs : w1.heap.size ≤ (u2).heap.size := hHeld.size
     refine hK.out _ _ (below_alloc hHeld _) (fun hHeld => ?_)
     clear hK K
     refine nm_ (some 7) ?_
     refine on1_ 6 (some 16) (bs 13 1151) rfl fun K hK => ?_
     refine gs_ Try.func73 #[numV x, numV y] rfl ?_
     with_reducible refine (HC.out _).mono ?_
     rintro e u3 ⟨rfl, hb_u3⟩
     refine ⟨_, rfl, ?_⟩
     replace hz := hz.on hb_u3
     refine hK.out _ _ (bl_on hHeld hb_u3 hHeld.size) (fun hHeld => ?_)
     clear hK K
     refine nm_ (some 16) ?_
     refine pu_ 7 9 (bs 13 1279) ?_ ?_ ?_ ?_ ?_
     rotate_left
     ·intro w'
      go_simp
      with_reducible rfl
     rotate_left
     ·simp only [aS, i64_w, i32_w]
      rfl
     refine pu_ 8 17 (bs 13 1535) ?_ ?_ ?_ ?_ ?_
     rotate_left
     ·intro w'
      go_simp
      with_reducible rfl
     rotate_left
     ·simp only [aS, i64_w, i32_w]
      rfl
     refine pu_ 9 18 (bs 13 2047) ?_ ?_ ?_ ?_ ?_
     rotate_left
     ·intro w'
      go_simp
      with_reducible rfl
     rotate_left
     ·simp only [aS, i64_w, i32_w]
      rfl
     exact norm_ (by simp only [putAll, aS]) (hCont (u2).heap.size _ ⟨hHeld, hz, hs⟩)
   ·skip
    refine value_ (w1 := ?_) (v := ?_) (by rfl) rfl ?_ ?_
    rotate_left 2
    ·go_simp
     constructor
     ·rfl
     ·rfl
    have hz : NAt (World.alloc u1 (.cells (nw 0).toArray 24)) (u1).heap.size 0 := Row.new u1 _ (nw 0)
    have hs : w1.heap.size ≤ (u1).heap.size := hHeld.size
    refine hK.out _ _ (below_alloc hHeld _) (fun hHeld => ?_)
    clear hK K
    refine nm_ (some 7) ?_
    refine on1_ 5 (some 15) (bs 13 1087) rfl fun K hK => ?_
    refine gs_ Try.func71 #[.pointer (some ⟨gf, 0, none⟩), numV b] rfl ?_
    with_reducible refine (HI2.out _ (HF.out.below hHeld HF.out.size)).mono ?_
    rintro e u2 ⟨rfl, hb_u2⟩
    refine ⟨_, rfl, ?_⟩
    replace hz := hz.on hb_u2
    refine hK.out _ _ (bl_on hHeld hb_u2 hHeld.size) (fun hHeld => ?_)
    clear hK K
    refine nm_ (some 15) ?_
    refine on1_ 6 (some 16) (bs 13 1151) rfl fun K hK => ?_
    refine gs_ Try.func73 #[numV x, numV y] rfl ?_
    with_reducible refine (HC.out _).mono ?_
    rintro e u3 ⟨rfl, hb_u3⟩
    refine ⟨_, rfl, ?_⟩
    replace hz := hz.on hb_u3
    refine hK.out _ _ (bl_on hHeld hb_u3 hHeld.size) (fun hHeld => ?_)
    clear hK K
    refine nm_ (some 16) ?_
    refine pu_ 7 9 (bs 13 1279) ?_ ?_ ?_ ?_ ?_
    rotate_left
    ·intro w'
     go_simp
     with_reducible rfl
    rotate_left
    ·simp only [aS, i64_w, i32_w]
     rfl
    refine pu_ 8 17 (bs 13 1535) ?_ ?_ ?_ ?_ ?_
    rotate_left
    ·intro w'
     go_simp
     with_reducible rfl
    rotate_left
    ·simp only [aS, i64_w, i32_w]
     rfl
    refine pu_ 9 18 (bs 13 2047) ?_ ?_ ?_ ?_ ?_
    rotate_left
    ·intro w'
     go_simp
     with_reducible rfl
    rotate_left
    ·simp only [aS, i64_w, i32_w]
     rfl
    exact norm_ (by simp only [putAll, aS]) (hCont (u1).heap.size _ ⟨hHeld, hz, hs⟩)
  ·skip
   refine value_ (w1 := ?_) (v := ?_) (by rfl) rfl ?_ ?_
   rotate_left 2
   ·go_simp
    constructor
    ·rfl
    ·rfl
   have hz : NAt (World.alloc (World.drew w1) (.cells (nw 0).toArray 24)) ((World.drew w1)).heap.size 0 := Row.new (World.drew w1) _ (nw 0)
   have hs : w1.heap.size ≤ ((World.drew w1)).heap.size := hHeld.size
   refine hK.out _ _ (below_alloc hHeld _) (fun hHeld => ?_)
   clear hK K
   refine nm_ (some 7) ?_
   refine on1_ 2 (some 12) (bs 13 1055) rfl fun K hK => ?_
   refine gs_ Try.func71 #[.pointer (some ⟨gf, 0, none⟩), numV a] rfl ?_
   with_reducible refine (HI1.out _ (HF.out.below hHeld HF.out.size)).mono ?_
   rintro e u1 ⟨rfl, hb_u1⟩
   refine ⟨_, rfl, ?_⟩
   replace hz := hz.on hb_u1
   refine hK.out _ _ (bl_on hHeld hb_u1 hHeld.size) (fun hHeld => ?_)
   clear hK K
   refine nm_ (some 12) ?_
   refine on1_ 5 (some 15) (bs 13 1087) rfl fun K hK => ?_
   refine gs_ Try.func71 #[.pointer (some ⟨gf, 0, none⟩), numV b] rfl ?_
   with_reducible refine (HI2.out _ (HF.out.below hHeld HF.out.size)).mono ?_
   rintro e u2 ⟨rfl, hb_u2⟩
   refine ⟨_, rfl, ?_⟩
   replace hz := hz.on hb_u2
   refine hK.out _ _ (bl_on hHeld hb_u2 hHeld.size) (fun hHeld => ?_)
   clear hK K
   refine nm_ (some 15) ?_
   refine on1_ 6 (some 16) (bs 13 1151) rfl fun K hK => ?_
   refine gs_ Try.func73 #[numV x, numV y] rfl ?_
   with_reducible refine (HC.out _).mono ?_
   rintro e u3 ⟨rfl, hb_u3⟩
   refine ⟨_, rfl, ?_⟩
   replace hz := hz.on hb_u3
   refine hK.out _ _ (bl_on hHeld hb_u3 hHeld.size) (fun hHeld => ?_)
   clear hK K
   refine nm_ (some 16) ?_
   refine pu_ 7 9 (bs 13 1279) ?_ ?_ ?_ ?_ ?_
   rotate_left
   ·intro w'
    go_simp
    with_reducible rfl
   rotate_left
   ·simp only [aS, i64_w, i32_w]
    rfl
   refine pu_ 8 17 (bs 13 1535) ?_ ?_ ?_ ?_ ?_
   rotate_left
   ·intro w'
    go_simp
    with_reducible rfl
   rotate_left
   ·simp only [aS, i64_w, i32_w]
    rfl
   refine pu_ 9 18 (bs 13 2047) ?_ ?_ ?_ ?_ ?_
   rotate_left
   ·intro w'
    go_simp
    with_reducible rfl
   rotate_left
   ·simp only [aS, i64_w, i32_w]
    rfl
   exact norm_ (by simp only [putAll, aS]) (hCont w1.heap.size _ ⟨hHeld, hz, hs⟩)
 rintro g7 w5 ⟨hHeld, hz, hs⟩
 refine norm_ (a' := ?_) ?_ ?_
 rotate_left
 ·simp only [putAll, aS]
  rfl
 refine last_ (i := 11) (N := none) (bs 13 4095) rfl rfl (by kernel_rfl) (by decide) (fun K hK => ?_)
 refine skip_num hz (by rfl) rfl (.tmp 7) (.tmp 17) rfl rfl rfl ?_
 intro u6 hA6 hT6
 refine hK.out _ _ ?_
 clear hK K
 refine pu_ 12 8 (bs 13 8191) ?_ ?_ ?_ ?_ ?_
 rotate_left
 ·intro w'
  go_simp
  with_reducible rfl
 rotate_left
 ·simp only [aS, i64_w, i32_w]
  rfl
 refine done_ (by kernel_rfl) ?_
 have HXg7 : Aside0 (w.heap.size + 1 + 1 + 1 ≤ g7) := Aside0.mk (Nat.le_trans HS.out hs)
 have HN := Aside0.mk hz
 replace HA := Aside0.mk (HA.out.on hHeld)
 replace HB2 := Aside0.mk (HB2.out.on hHeld)
 replace HO := Aside0.mk (HO.out.on hHeld)
 replace HF := Aside0.mk (HF.out.on hHeld)
 replace HB := Aside0.mk (bl_on HB.out hHeld HB.out.size)
 replace HS := Aside0.mk (Nat.le_trans HS.out hHeld.size)
 clear hHeld hs hz
 replace HA := Aside0.mk (HA.out.but hT6 (by have := HG.out; have := HXg7.out; omega))
 replace HB2 := Aside0.mk (HB2.out.but hT6 (by have := HG.out; have := HXg7.out; omega))
 replace HO := Aside0.mk (HO.out.but hT6 (by have := HG.out; have := HXg7.out; omega))
 replace HF := Aside0.mk (HF.out.but hT6 (by have := HG.out; have := HXg7.out; omega))
 replace HN := Aside0.mk hA6
 replace HB := Aside0.mk (bl_but HB.out hT6 HB.out.size (by have := HXg7.out; omega))
 replace HS := Aside0.mk (Nat.le_trans HS.out hT6.size)
 clear hA6 hT6
 clear HI1 HI2 HC
 cases D with
 | false =>
  have E2 : n = r := F2.out rfl
  subst E2
  clear F1 F2 HP
  go_wp2_with (first | ((with_reducible refine gate_dst (N := 29) rfl ?_); refine ld_num (HN.out.range) rfl _ rfl rfl ?_) | ((with_reducible refine gate_st (y := .tmp 29) rfl ?_); refine st_num (HO.out) rfl _ _ rfl rfl rfl ?_; intro u8 hA8 hT8; replace HA := Aside0.mk (HA.out.but hT8 (by have := HG.out; have := HXg7.out; omega)); replace HB2 := Aside0.mk (HB2.out.but hT8 (by have := HG.out; have := HXg7.out; omega)); replace HF := Aside0.mk (HF.out.but hT8 (by have := HG.out; have := HXg7.out; omega)); replace HN := Aside0.mk (HN.out.but hT8 (by have := HG.out; have := HXg7.out; omega)); replace HO := Aside0.mk hA8; replace HB := Aside0.mk (bl_but HB.out hT8 HB.out.size (by omega)); replace HS := Aside0.mk (Nat.le_trans HS.out hT8.size); clear hA8 hT8))
  exact bodyPost_ret (v := numV n) (results_nat rfl rfl HO.out) rfl ⟨rfl, HB.out⟩
 | true =>
  have E2 : p = r := F1.out rfl
  subst E2
  clear F1 F2
  go_wp2
  obtain ⟨u, hu⟩ : ∃ x, x = u6 := ⟨_, rfl⟩
  subst hu
  refine start_ (n := 10) (S := fun w' => Below u.heap.size u w') (ds := [9]) (bs 10 0) (by kernel_rfl) rfl rfl ((Below.refl _ _).drew) (fun hHeld => ?_)
  refine pu_ 1 22 (bs 10 2) ?_ ?_ ?_ ?_ ?_
  rotate_left
  ·intro w'
   go_simp
   with_reducible rfl
  rotate_left
  ·simp only [aS, i64_w, i32_w]
   rfl
  refine pu_ 2 23 (bs 10 6) ?_ ?_ ?_ ?_ ?_
  rotate_left
  ·intro w'
   go_simp
   with_reducible rfl
  rotate_left
  ·simp only [aS, i64_w, i32_w]
   rfl
  refine pu_ 3 24 (bs 10 14) ?_ ?_ ?_ ?_ ?_
  rotate_left
  ·intro w'
   go_simp
   with_reducible rfl
  rotate_left
  ·simp only [aS, i64_w, i32_w]
   rfl
  refine take_ (i := 0) (N := some 21) (a' := ?_) (bs 10 15) rfl rfl (by kernel_rfl) (fun _ _ _ h => h) (yields_num (g := g7) (o := 0) (n := n) (by rfl) (.tmp 7) rfl rfl (fun w' hS => (HN.out.below hS HN.out.size).range)) hHeld ?_ ?_
  rotate_left
  ·simp only [aS, i64_w, i32_w]
   rfl
  refine take_ (i := 4) (N := some 25) (a' := ?_) (bs 10 31) rfl rfl (by kernel_rfl) (fun _ _ _ h => h) (yields_num (g := gf) (o := 0) (n := m) (by rfl) (.tmp 24) rfl rfl (fun w' hS => (HF.out.below hS HF.out.size).range0)) hHeld ?_ ?_
  rotate_left
  ·simp only [aS, i64_w, i32_w]
   rfl
  refine on1_ 5 (some 26) (bs 10 63) rfl fun K hK => ?_
  refine gs_ Try.func24 #[numV n, numV m] rfl ?_
  with_reducible refine (HP.out _).mono ?_
  rintro e u7 ⟨rfl, hb7⟩
  refine ⟨_, rfl, ?_⟩
  refine hK.out _ _ (hHeld.trans (hb7.mono hHeld.size)) (fun hHeld => ?_)
  clear hK K
  refine nm_ (some 26) ?_
  refine pu_ 6 20 (bs 10 127) ?_ ?_ ?_ ?_ ?_
  rotate_left
  ·intro w'
   go_simp
   with_reducible rfl
  rotate_left
  ·simp only [aS, i64_w, i32_w]
   rfl
  refine pu_ 7 27 (bs 10 255) ?_ ?_ ?_ ?_ ?_
  rotate_left
  ·intro w'
   go_simp
   with_reducible rfl
  rotate_left
  ·simp only [aS, i64_w, i32_w]
   rfl
  refine pu_ 8 28 (bs 10 511) ?_ ?_ ?_ ?_ ?_
  rotate_left
  ·intro w'
   go_simp
   with_reducible rfl
  rotate_left
  ·simp only [aS, i64_w, i32_w]
   rfl
  refine last_ (i := 9) (N := none) (bs 10 1023) rfl rfl (by kernel_rfl) (by decide) (fun K hK => ?_)
  refine skip_num (HN.out.below hHeld HN.out.size) (by rfl) rfl (.tmp 7) (.tmp 27) rfl rfl rfl ?_
  intro u8 hA8 hT8
  refine hK.out _ _ ?_
  clear hK K
  refine done_ (by kernel_rfl) ?_
  replace HA := Aside0.mk (HA.out.on hHeld)
  replace HB2 := Aside0.mk (HB2.out.on hHeld)
  replace HO := Aside0.mk (HO.out.on hHeld)
  replace HF := Aside0.mk (HF.out.on hHeld)
  replace HN := Aside0.mk (HN.out.on hHeld)
  replace HB := Aside0.mk (bl_on HB.out hHeld HB.out.size)
  replace HS := Aside0.mk (Nat.le_trans HS.out hHeld.size)
  replace HA := Aside0.mk (HA.out.but hT8 (by have := HG.out; have := HXg7.out; omega))
  replace HB2 := Aside0.mk (HB2.out.but hT8 (by have := HG.out; have := HXg7.out; omega))
  replace HO := Aside0.mk (HO.out.but hT8 (by have := HG.out; have := HXg7.out; omega))
  replace HF := Aside0.mk (HF.out.but hT8 (by have := HG.out; have := HXg7.out; omega))
  replace HN := Aside0.mk hA8
  replace HB := Aside0.mk (bl_but HB.out hT8 HB.out.size (by have := HXg7.out; omega))
  replace HS := Aside0.mk (Nat.le_trans HS.out hT8.size)
  clear hA8 hT8
  clear hHeld hb7
  go_wp2_with (first | ((with_reducible refine gate_dst (N := 29) rfl ?_); refine ld_num (HN.out.range) rfl _ rfl rfl ?_) | ((with_reducible refine gate_st (y := .tmp 29) rfl ?_); refine st_num (HO.out) rfl _ _ rfl rfl rfl ?_; intro u9 hA9 hT9; replace HA := Aside0.mk (HA.out.but hT9 (by have := HG.out; have := HXg7.out; omega)); replace HB2 := Aside0.mk (HB2.out.but hT9 (by have := HG.out; have := HXg7.out; omega)); replace HF := Aside0.mk (HF.out.but hT9 (by have := HG.out; have := HXg7.out; omega)); replace HN := Aside0.mk (HN.out.but hT9 (by have := HG.out; have := HXg7.out; omega)); replace HO := Aside0.mk hA9; replace HB := Aside0.mk (bl_but HB.out hT9 HB.out.size (by omega)); replace HS := Aside0.mk (Nat.le_trans HS.out hT9.size); clear hA9 hT9))
  exact bodyPost_ret (v := numV p) (results_nat rfl rfl HO.out) rfl ⟨rfl, HB.out⟩
end Go.Proofs.Ytkfjhndofbmhoaa
namespace Go.Proofs.Ytkfjhndofbmhoaa
open Go.RowKit Go.Proofs.Ytkfjhndofbmhoaa.Arr Go.Proofs.YtkfjhndofbmhoaaW.PrintWords Go.Proofs.YtkfjhndofbmhoaaW.PrintLast Go.Proofs.YtkfjhndofbmhoaaW.PrintMore
set_option linter.unusedVariables false
set_option linter.unusedSimpArgs false
set_option exponentiation.threshold 600
theorem nw_get (x q : Nat) (hq : q < 4) : (nw x)[q]? = some (.int .u64 (xw x q : Nat)) := by
 have e : ∀ a b : Nat, a = b → (some (.int .u64 (a : Nat)) : Option Value) = some (.int .u64 (b : Nat)) := fun a b h => by rw [h]
 match q, hq with
 | 0, _ => exact e _ _ (by unfold wd0 xw; rw [Nat.mul_zero, Nat.pow_zero, Nat.div_one])
 | 1, _ => exact e _ _ rfl
 | 2, _ => exact e _ _ rfl
 | 3, _ => exact e _ _ rfl
 | n + 4, h => exact absurd h (by omega)
theorem NAt.word {w : World} {g x : Nat} (h : NAt w g x) (q : Nat) (hq : q < 4) : w.cell? ⟨g, q, none⟩ = some (.int .u64 (xw x q : Nat)) := Row.cell h _ _ (nw_get x q hq)
theorem xw_at (x q r : Nat) (hr : r < 64) : xw x q / 2 ^ r % 2 = x / 2 ^ (64 * q + r) % 2 := by
 have h := xw_bit x (64 * q + r)
 rw [show (64 * q + r) / 64 = q by omega, show (64 * q + r) % 64 = r by omega] at h
 exact h
theorem xw_lt (x q : Nat) : xw x q < 2 ^ 64 := Nat.mod_lt _ (by decide)
/-- a word, k times doubled -/
def wk (W k : Nat) : Nat := W * 2 ^ k % 2 ^ 64
theorem wk_zero (W : Nat) (h : W < 2 ^ 64) : wk W 0 = W := by unfold wk; rw [Nat.pow_zero, Nat.mul_one, Nat.mod_eq_of_lt h]
theorem wk_succ (W k : Nat) : (wk W k + wk W k) % 18446744073709551616 = wk W (k + 1) := by
 unfold wk
 rw [show (18446744073709551616 : Nat) = 2 ^ 64 from by decide, ← Nat.add_mod, show 2 ^ (k + 1) = 2 ^ k * 2 from Nat.pow_succ 2 k, ← Nat.mul_assoc, Nat.mul_two]
theorem wk_lt (W k : Nat) : wk W k < 18446744073709551616 := Nat.lt_of_lt_of_eq (Nat.mod_lt _ (by decide)) (by decide)
theorem wk_top (W k : Nat) (hk : k < 64) (hW : W < 2 ^ 64) : (9223372036854775808 ≤ wk W k) ↔ W / 2 ^ (63 - k) % 2 = 1 := by
 have h1 : wk W k / 2 ^ 63 = W / 2 ^ (63 - k) % 2 := by
  have h : (wk W k).testBit 63 = W.testBit (63 - k) := by
   unfold wk
   rw [Nat.testBit_mod_two_pow, Nat.testBit_mul_two_pow]
   simp
   omega
  rw [Nat.testBit_eq_decide_div_mod_eq, Nat.testBit_eq_decide_div_mod_eq, decide_eq_decide] at h
  have h2 := wk_lt W k
  have h3 : (2 : Nat) ^ 63 = 9223372036854775808 := by decide
  rw [h3] at h ⊢
  omega
 rw [← h1]
 have h2 := wk_lt W k
 have h3 : (2 : Nat) ^ 63 = 9223372036854775808 := by decide
 rw [h3]
 omega
theorem wrap_twice (a : Nat) : IntKind.u64.wrap ((a : Int) + (a : Int)) = (((a + a) % 18446744073709551616 : Nat) : Int) := by rw [IntKind.wrap_u64]; omega
/-- one bit more of what is multiplied -/
theorem dbl_step (c B m e : Nat) (hc : c < m) : let v := c * (B / 2 ^ (e + 1)) % m
  (B / 2 ^ e % 2 = 0 → (v + v) % m = c * (B / 2 ^ e) % m) ∧ (B / 2 ^ e % 2 = 1 → ((v + v) % m + c) % m = c * (B / 2 ^ e) % m) := by
 intro v
 have e1 : B / 2 ^ e = 2 * (B / 2 ^ (e + 1)) + B / 2 ^ e % 2 := by rw [Nat.pow_succ, ← Nat.div_div_eq_div_mul]; omega
 have e2 : (v + v) % m = c * (2 * (B / 2 ^ (e + 1))) % m := by
  show (c * (B / 2 ^ (e + 1)) % m + c * (B / 2 ^ (e + 1)) % m) % m = _
  rw [← Nat.add_mod, Nat.mul_left_comm, Nat.two_mul]
 refine ⟨fun h => ?_, fun h => ?_⟩
 ·rw [e2]
  rw [h, Nat.add_zero] at e1
  rw [← e1]
 ·rw [e2]
  rw [h] at e1
  rw [e1, Nat.mul_add c, Nat.mul_one]
  conv => rhs; rw [Nat.add_mod, Nat.mod_eq_of_lt hc]
theorem inc64 {t : Nat} (h : t < 64) : wrap64 ((t : Int) + 1) = (t : Int) + 1 := by unfold wrap64; omega
theorem meas_k {t : Nat} (h : t < 64) : 64 - (intOf (.int .i64 ((t : Int) + 1))).toNat < 64 - (intOf (.int .i64 (t : Int))).toNat := by
 show 64 - ((t : Int) + 1).toNat < 64 - (t : Int).toNat
 omega
theorem top_zero (c B m n : Nat) (h : B < 2 ^ n) : c * (B / 2 ^ n) % m = 0 := by rw [Nat.div_eq_of_lt h, Nat.mul_zero, Nat.zero_mod]
theorem n256 : N256 = 2 ^ 256 := by unfold N256; decide
theorem bit_two (b : Nat) : b % 2 = 0 ∨ b % 2 = 1 := by omega
end Go.Proofs.Ytkfjhndofbmhoaa
namespace Go.Proofs.Ytkfjhndofbmhoaa
open Go.RowKit Go.Proofs.Ytkfjhndofbmhoaa.Arr Go.Proofs.YtkfjhndofbmhoaaW.PrintWords Go.Proofs.YtkfjhndofbmhoaaW.PrintLast Go.Proofs.YtkfjhndofbmhoaaW.PrintMore
set_option linter.unusedVariables false
set_option linter.unusedSimpArgs false
set_option maxRecDepth 100000 in
set_option maxHeartbeats 8000000 in
/-- clapperref02.Sub -/
theorem rsub_calls (a b m : Nat) (w : World) (hm : m < N256) (ha : a < m) (hb : b < m) :
  Calls Try.prog 65 #[numV a, numV b, numV m] w fun e w' => e = .returned (numV ((a + m - b) % m)) ∧ Below w.heap.size w w' := by
 have HSP := Aside0.mk (fits_dif ha hb hm)
 have HL := Aside0.mk (fun u => less_calls (IsNum.mk (Nat.lt_trans ha hm)) (IsNum.mk (Nat.lt_trans hb hm)) u)
 have HC := Aside0.mk (fun u => minus_calls (IsNum.mk (Nat.lt_trans ha hm)) (IsNum.mk (Nat.lt_trans hb hm)) u)
 obtain ⟨n, hn⟩ : ∃ n, n = (a + N256 - b) % N256 := ⟨_, rfl⟩
 have hnN : n < N256 := by rw [hn]; exact Nat.mod_lt _ N256_pos
 obtain ⟨D, hD⟩ : ∃ D, D = decide (a < b) := ⟨_, rfl⟩
 rw [← hn] at HC HSP
 rw [← hD] at HL
 have HP := Aside0.mk (fun u => plus_calls (IsNum.mk hnN) (IsNum.mk hm) u)
 obtain ⟨p, hp⟩ : ∃ p, p = (n + m) % N256 := ⟨_, rfl⟩
 rw [← hp] at HP HSP
 generalize decide (N256 ≤ n + m) = E at *
 generalize (a + m - b) % m = r at *
 have F1 : Aside0 (D = true → p = r) := Aside0.mk (fun h => HSP.out.1 (by rw [h] at hD; simpa using hD.symm))
 have F2 : Aside0 (D = false → n = r) := Aside0.mk (fun h => HSP.out.2 (by rw [h] at hD; simpa using hD.symm))
 clear hn hD hnN HSP hm ha hb hp
 rw [numV_def a, numV_def b, numV_def m]
 go_enter Try.func65, Try.ntmps65
 go_upto_region 1 with (fail)
 refine wp_at (w2 := (World.alloc (World.alloc (World.alloc (World.alloc w (.cells (nw a).toArray 24)) (.cells (nw b).toArray 24)) (.cells (nw m).toArray 24)) (.cells (nw 0).toArray 24))) rfl ?_
 obtain ⟨x_0, e_0, h_0, b_0, s_0⟩ := new_num w a
 obtain ⟨x_1, e_1, h_1, b_1, s_1⟩ := new_num x_0 b
 obtain ⟨x_2, e_2, h_2, b_2, s_2⟩ := new_num x_1 m
 obtain ⟨x_3, e_3, h_3, b_3, s_3⟩ := new_num x_2 0
 rw [e_0, e_1, e_2, e_3]
 rw [s_0] at h_1 s_1
 rw [s_1] at h_2 s_2
 rw [s_2] at h_3 s_3
 have HB : Aside0 (Below w.heap.size w x_3) := Aside0.mk (bl_both (bl_both (bl_both b_0 b_1) b_2) b_3)
 have HA : Aside0 (NAt x_3 (w.heap.size) a) := Aside0.mk (((h_0.on b_1).on b_2).on b_3)
 have HB2 : Aside0 (NAt x_3 (w.heap.size + 1) b) := Aside0.mk ((h_1.on b_2).on b_3)
 have HM : Aside0 (NAt x_3 (w.heap.size + 1 + 1) m) := Aside0.mk (h_2.on b_3)
 have HO : Aside0 (NAt x_3 (w.heap.size + 1 + 1 + 1) 0) := Aside0.mk h_3
 have HS : Aside0 (w.heap.size + 1 + 1 + 1 + 1 ≤ x_3.heap.size) := Aside0.mk (Nat.le_of_eq s_3.symm)
 clear e_0 h_0 b_0 s_0 e_1 h_1 b_1 s_1 e_2 h_2 b_2 s_2 e_3 h_3 b_3 s_3
 obtain ⟨w1, hw_⟩ : ∃ x, x = x_3 := ⟨_, rfl⟩
 subst hw_
 clear x_0 x_1 x_2
 cases D with
 | false =>
  have E2 : n = r := F2.out rfl
  subst E2
  clear F1 F2 HP
  go_wp2_with (first | ((with_reducible refine gate_dst (N := 9) rfl ?_); refine ld_num (HA.out.range) rfl _ rfl rfl ?_) | ((with_reducible refine gate_dst (N := 10) rfl ?_); refine ld_num (HB2.out.range) rfl _ rfl rfl ?_) | ((with_reducible refine gate_callee (f := 63) rfl ?_); refine goesL_ (some 11) rfl rfl Try.func63 (by kernel_rfl) rfl #[numV a, numV b] rfl (by (try simp only [List.map_toArray, List.map_cons, List.map_nil]); first | done | rfl) ?_; (with_reducible refine (HL.out _).mono ?_); rintro e u1 ⟨rfl, hb1⟩; replace HA := Aside0.mk (HA.out.on hb1); replace HB2 := Aside0.mk (HB2.out.on hb1); replace HM := Aside0.mk (HM.out.on hb1); replace HO := Aside0.mk (HO.out.on hb1); replace HB := Aside0.mk (bl_on HB.out hb1 HB.out.size); replace HS := Aside0.mk (Nat.le_trans HS.out hb1.size); clear hb1; refine ⟨_, rfl, ?_⟩) | ((with_reducible refine gate_dst (N := 21) rfl ?_); refine ld_num (HA.out.range) rfl _ rfl rfl ?_) | ((with_reducible refine gate_dst (N := 22) rfl ?_); refine ld_num (HB2.out.range) rfl _ rfl rfl ?_) | ((with_reducible refine gate_callee (f := 64) rfl ?_); refine goesL_ (some 23) rfl rfl Try.func64 (by kernel_rfl) rfl #[numV a, numV b] rfl (by (try simp only [List.map_toArray, List.map_cons, List.map_nil]); first | done | rfl) ?_; (with_reducible refine (HC.out _).mono ?_); rintro e u2 ⟨rfl, hb2⟩; replace HA := Aside0.mk (HA.out.on hb2); replace HB2 := Aside0.mk (HB2.out.on hb2); replace HM := Aside0.mk (HM.out.on hb2); replace HO := Aside0.mk (HO.out.on hb2); replace HB := Aside0.mk (bl_on HB.out hb2 HB.out.size); replace HS := Aside0.mk (Nat.le_trans HS.out hb2.size); clear hb2; refine ⟨_, rfl, ?_⟩) | ((with_reducible refine gate_st (y := .tmp 23) rfl ?_); refine st_num (HO.out) rfl _ _ rfl rfl rfl ?_; intro u3 hA3 hT3; replace HA := Aside0.mk (HA.out.but hT3 (by omega)); replace HB2 := Aside0.mk (HB2.out.but hT3 (by omega)); replace HM := Aside0.mk (HM.out.but hT3 (by omega)); replace HO := Aside0.mk hA3; replace HB := Aside0.mk (bl_but HB.out hT3 HB.out.size (by omega)); replace HS := Aside0.mk (Nat.le_trans HS.out hT3.size); clear hA3 hT3))
  exact bodyPost_ret (v := numV n) (results_nat rfl rfl HO.out) rfl ⟨rfl, HB.out⟩
 | true =>
  have E2 : p = r := F1.out rfl
  subst E2
  clear F1 F2
  go_wp2_with (first | ((with_reducible refine gate_dst (N := 9) rfl ?_); refine ld_num (HA.out.range) rfl _ rfl rfl ?_) | ((with_reducible refine gate_dst (N := 10) rfl ?_); refine ld_num (HB2.out.range) rfl _ rfl rfl ?_) | ((with_reducible refine gate_callee (f := 63) rfl ?_); refine goesL_ (some 11) rfl rfl Try.func63 (by kernel_rfl) rfl #[numV a, numV b] rfl (by (try simp only [List.map_toArray, List.map_cons, List.map_nil]); first | done | rfl) ?_; (with_reducible refine (HL.out _).mono ?_); rintro e u1 ⟨rfl, hb1⟩; replace HA := Aside0.mk (HA.out.on hb1); replace HB2 := Aside0.mk (HB2.out.on hb1); replace HM := Aside0.mk (HM.out.on hb1); replace HO := Aside0.mk (HO.out.on hb1); replace HB := Aside0.mk (bl_on HB.out hb1 HB.out.size); replace HS := Aside0.mk (Nat.le_trans HS.out hb1.size); clear hb1; refine ⟨_, rfl, ?_⟩))
  obtain ⟨u0, hu⟩ : ∃ x, x = u1 := ⟨_, rfl⟩
  subst hu
  refine start_ (n := 11) (S := fun w' => Below u0.heap.size u0 w') (ds := [9]) (bs 11 0) (by kernel_rfl) rfl rfl ((Below.refl _ _).drew) (fun hHeld => ?_)
  refine take_ (i := 0) (N := some 13) (a' := ?_) (bs 11 1) rfl rfl (by kernel_rfl) (fun _ _ _ h => h) (yields_num (g := w.heap.size) (o := 0) (n := a) (by rfl) (.tmp 3) rfl rfl (fun w' hS => (HA.out.below hS HA.out.size).range)) hHeld ?_ ?_
  rotate_left
  ·simp only [aS, i64_w, i32_w]
   rfl
  refine take_ (i := 1) (N := some 14) (a' := ?_) (bs 11 3) rfl rfl (by kernel_rfl) (fun _ _ _ h => h) (yields_num (g := w.heap.size + 1) (o := 0) (n := b) (by rfl) (.tmp 4) rfl rfl (fun w' hS => (HB2.out.below hS HB2.out.size).range)) hHeld ?_ ?_
  rotate_left
  ·simp only [aS, i64_w, i32_w]
   rfl
  refine take_ (i := 3) (N := some 16) (a' := ?_) (bs 11 11) rfl rfl (by kernel_rfl) (fun _ _ _ h => h) (yields_num (g := w.heap.size + 1 + 1) (o := 0) (n := m) (by rfl) (.tmp 5) rfl rfl (fun w' hS => (HM.out.below hS HM.out.size).range)) hHeld ?_ ?_
  rotate_left
  ·simp only [aS, i64_w, i32_w]
   rfl
  refine join_ (σ := Nat) 2 (bs 11 511) (fun s => [(7, .pointer (some ⟨s, 0, none⟩)), (15, numV n), (17, .tuple #[numV p, .bool E]), (12, .tuple #[numV p, .bool E]), (18, numV p), (19, .bool E)]) (fun s w' => Below u0.heap.size u0 w' ∧ NAt w' s 0 ∧ u0.heap.size ≤ s) ?_ ?_
  rotate_left
  ·intro hCont
   refine tw_ 2 8 (some 15) (some 7) (bs 11 15) (bs 11 267) rfl rfl (fun K hK => ?_) (fun K hK => ?_)
   ·skip
    refine gs_ Try.func64 #[numV a, numV b] rfl ?_
    with_reducible refine (HC.out _).mono ?_
    rintro e v1 ⟨rfl, hb_v1⟩
    refine ⟨_, rfl, ?_⟩
    refine hK.out _ _ (bl_on hHeld hb_v1 hHeld.size) (fun hHeld => ?_)
    clear hK K
    refine nm_ (some 15) ?_
    refine tw_ 4 8 (some 17) (some 7) (bs 11 31) (bs 11 271) rfl rfl (fun K hK => ?_) (fun K hK => ?_)
    ·skip
     refine gs_ Try.func62 #[numV n, numV m] rfl ?_
     with_reducible refine (HP.out _).mono ?_
     rintro e v2 ⟨rfl, hb_v2⟩
     refine ⟨_, rfl, ?_⟩
     refine hK.out _ _ (bl_on hHeld hb_v2 hHeld.size) (fun hHeld => ?_)
     clear hK K
     refine nm_ (some 17) ?_
     refine pu_ 5 12 (bs 11 63) ?_ ?_ ?_ ?_ ?_
     rotate_left
     ·intro w'
      go_simp
      with_reducible rfl
     rotate_left
     ·simp only [aS, i64_w, i32_w]
      rfl
     refine pu_ 6 18 (bs 11 127) ?_ ?_ ?_ ?_ ?_
     rotate_left
     ·intro w'
      go_simp
      with_reducible rfl
     rotate_left
     ·simp only [aS, i64_w, i32_w]
      rfl
     refine pu_ 7 19 (bs 11 255) ?_ ?_ ?_ ?_ ?_
     rotate_left
     ·intro w'
      go_simp
      with_reducible rfl
     rotate_left
     ·simp only [aS, i64_w, i32_w]
      rfl
     refine on1_ 8 (some 7) (bs 11 511) rfl fun K hK => ?_
     refine value_ (w1 := ?_) (v := ?_) (by rfl) rfl ?_ ?_
     rotate_left 2
     ·go_simp
      constructor
      ·rfl
      ·rfl
     have hz : NAt (World.alloc v2 (.cells (nw 0).toArray 24)) (v2).heap.size 0 := Row.new v2 _ (nw 0)
     have hs : u0.heap.size ≤ (v2).heap.size := hHeld.size
     refine hK.out _ _ (below_alloc hHeld _) (fun hHeld => ?_)
     clear hK K
     refine nm_ (some 7) ?_
     exact norm_ (by simp only [putAll, aS]) (hCont (v2).heap.size _ ⟨hHeld, hz, hs⟩)
    ·skip
     refine value_ (w1 := ?_) (v := ?_) (by rfl) rfl ?_ ?_
     rotate_left 2
     ·go_simp
      constructor
      ·rfl
      ·rfl
     have hz : NAt (World.alloc v1 (.cells (nw 0).toArray 24)) (v1).heap.size 0 := Row.new v1 _ (nw 0)
     have hs : u0.heap.size ≤ (v1).heap.size := hHeld.size
     refine hK.out _ _ (below_alloc hHeld _) (fun hHeld => ?_)
     clear hK K
     refine nm_ (some 7) ?_
     refine on1_ 4 (some 17) (bs 11 287) rfl fun K hK => ?_
     refine gs_ Try.func62 #[numV n, numV m] rfl ?_
     with_reducible refine (HP.out _).mono ?_
     rintro e v2 ⟨rfl, hb_v2⟩
     refine ⟨_, rfl, ?_⟩
     replace hz := hz.on hb_v2
     refine hK.out _ _ (bl_on hHeld hb_v2 hHeld.size) (fun hHeld => ?_)
     clear hK K
     refine nm_ (some 17) ?_
     refine pu_ 5 12 (bs 11 319) ?_ ?_ ?_ ?_ ?_
     rotate_left
     ·intro w'
      go_simp
      with_reducible rfl
     rotate_left
     ·simp only [aS, i64_w, i32_w]
      rfl
     refine pu_ 6 18 (bs 11 383) ?_ ?_ ?_ ?_ ?_
     rotate_left
     ·intro w'
      go_simp
      with_reducible rfl
     rotate_left
     ·simp only [aS, i64_w, i32_w]
      rfl
     refine pu_ 7 19 (bs 11 511) ?_ ?_ ?_ ?_ ?_
     rotate_left
     ·intro w'
      go_simp
      with_reducible rfl
     rotate_left
     ·simp only [aS, i64_w, i32_w]
      rfl
     exact norm_ (by simp only [putAll, aS]) (hCont (v1).heap.size _ ⟨hHeld, hz, hs⟩)
   ·skip
    refine value_ (w1 := ?_) (v := ?_) (by rfl) rfl ?_ ?_
    rotate_left 2
    ·go_simp
     constructor
     ·rfl
     ·rfl
    have hz : NAt (World.alloc (World.drew u0) (.cells (nw 0).toArray 24)) ((World.drew u0)).heap.size 0 := Row.new (World.drew u0) _ (nw 0)
    have hs : u0.heap.size ≤ ((World.drew u0)).heap.size := hHeld.size
    refine hK.out _ _ (below_alloc hHeld _) (fun hHeld => ?_)
    clear hK K
    refine nm_ (some 7) ?_
    refine on1_ 2 (some 15) (bs 11 271) rfl fun K hK => ?_
    refine gs_ Try.func64 #[numV a, numV b] rfl ?_
    with_reducible refine (HC.out _).mono ?_
    rintro e v1 ⟨rfl, hb_v1⟩
    refine ⟨_, rfl, ?_⟩
    replace hz := hz.on hb_v1
    refine hK.out _ _ (bl_on hHeld hb_v1 hHeld.size) (fun hHeld => ?_)
    clear hK K
    refine nm_ (some 15) ?_
    refine on1_ 4 (some 17) (bs 11 287) rfl fun K hK => ?_
    refine gs_ Try.func62 #[numV n, numV m] rfl ?_
    with_reducible refine (HP.out _).mono ?_
    rintro e v2 ⟨rfl, hb_v2⟩
    refine ⟨_, rfl, ?_⟩
    replace hz := hz.on hb_v2
    refine hK.out _ _ (bl_on hHeld hb_v2 hHeld.size) (fun hHeld => ?_)
    clear hK K
    refine nm_ (some 17) ?_
    refine pu_ 5 12 (bs 11 319) ?_ ?_ ?_ ?_ ?_
    rotate_left
    ·intro w'
     go_simp
     with_reducible rfl
    rotate_left
    ·simp only [aS, i64_w, i32_w]
     rfl
    refine pu_ 6 18 (bs 11 383) ?_ ?_ ?_ ?_ ?_
    rotate_left
    ·intro w'
     go_simp
     with_reducible rfl
    rotate_left
    ·simp only [aS, i64_w, i32_w]
     rfl
    refine pu_ 7 19 (bs 11 511) ?_ ?_ ?_ ?_ ?_
    rotate_left
    ·intro w'
     go_simp
     with_reducible rfl
    rotate_left
    ·simp only [aS, i64_w, i32_w]
     rfl
    exact norm_ (by simp only [putAll, aS]) (hCont u0.heap.size _ ⟨hHeld, hz, hs⟩)
  rintro g7 w5 ⟨hHeld, hz, hs⟩
  refine norm_ (a' := ?_) ?_ ?_
  rotate_left
  ·simp only [putAll, aS]
   rfl
  refine last_ (i := 9) (N := none) (bs 11 1023) rfl rfl (by kernel_rfl) (by decide) (fun K hK => ?_)
  refine skip_num hz (by rfl) rfl (.tmp 7) (.tmp 18) rfl rfl rfl ?_
  intro u6 hA6 hT6
  refine hK.out _ _ ?_
  clear hK K
  refine pu_ 10 8 (bs 11 2047) ?_ ?_ ?_ ?_ ?_
  rotate_left
  ·intro w'
   go_simp
   with_reducible rfl
  rotate_left
  ·simp only [aS, i64_w, i32_w]
   rfl
  refine done_ (by kernel_rfl) ?_
  have HXg7 : Aside0 (w.heap.size + 1 + 1 + 1 + 1 ≤ g7) := Aside0.mk (Nat.le_trans HS.out hs)
  have HN := Aside0.mk hz
  replace HA := Aside0.mk (HA.out.on hHeld)
  replace HB2 := Aside0.mk (HB2.out.on hHeld)
  replace HM := Aside0.mk (HM.out.on hHeld)
  replace HO := Aside0.mk (HO.out.on hHeld)
  replace HB := Aside0.mk (bl_on HB.out hHeld HB.out.size)
  replace HS := Aside0.mk (Nat.le_trans HS.out hHeld.size)
  clear hHeld hs hz
  replace HA := Aside0.mk (HA.out.but hT6 (by have := HXg7.out; omega))
  replace HB2 := Aside0.mk (HB2.out.but hT6 (by have := HXg7.out; omega))
  replace HM := Aside0.mk (HM.out.but hT6 (by have := HXg7.out; omega))
  replace HO := Aside0.mk (HO.out.but hT6 (by have := HXg7.out; omega))
  replace HN := Aside0.mk hA6
  replace HB := Aside0.mk (bl_but HB.out hT6 HB.out.size (by have := HXg7.out; omega))
  replace HS := Aside0.mk (Nat.le_trans HS.out hT6.size)
  clear hA6 hT6
  go_wp2_with (first | ((with_reducible refine gate_dst (N := 20) rfl ?_); refine ld_num (HN.out.range) rfl _ rfl rfl ?_) | ((with_reducible refine gate_st (y := .tmp 20) rfl ?_); refine st_num (HO.out) rfl _ _ rfl rfl rfl ?_; intro u9 hA9 hT9; replace HA := Aside0.mk (HA.out.but hT9 (by have := HXg7.out; omega)); replace HB2 := Aside0.mk (HB2.out.but hT9 (by have := HXg7.out; omega)); replace HM := Aside0.mk (HM.out.but hT9 (by have := HXg7.out; omega)); replace HN := Aside0.mk (HN.out.but hT9 (by have := HXg7.out; omega)); replace HO := Aside0.mk hA9; replace HB := Aside0.mk (bl_but HB.out hT9 HB.out.size (by omega)); replace HS := Aside0.mk (Nat.le_trans HS.out hT9.size); clear hA9 hT9))
  exact bodyPost_ret (v := numV p) (results_nat rfl rfl HO.out) rfl ⟨rfl, HB.out⟩
end Go.Proofs.Ytkfjhndofbmhoaa
