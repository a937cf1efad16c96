/- What the proof of PointMultiples is made of, part 22. -/
import Derived.Test.YtkfjhndofbmhoaaZPointMultiples19
import Derived.Test.YtkfjhndofbmhoaaZPointMultiples9
import Derived.Test.YtkfjhndofbmhoaaZPointMultiplesh
namespace Go.Proofs.Ytkfjhndofbmhoaa
open Go.RowKit Go.Proofs.Ytkfjhndofbmhoaa.Arr Go.Proofs.YtkfjhndofbmhoaaW.PrintWords Go.Proofs.YtkfjhndofbmhoaaW.PrintLast Go.Proofs.YtkfjhndofbmhoaaW.PrintMore
set_option linter.unusedVariables false
set_option linter.unusedSimpArgs false
theorem b_one {b : Nat} (h : b = 1) : (((b : Nat) : Int) == 1) = true := by rw [h]; rfl
theorem b_not {b : Nat} (h : b = 0) : (((b : Nat) : Int) == 1) = false := by rw [h]; rfl
/-- half of a number modulo m -/
def hf (m a : Nat) : Nat := if a % 2 = 0 then a / 2 else (a + m) / 2
theorem top_words (h : Nat) (hh : h * 2 < N256) : h + 57896044618658097711785492504343953926634992332820282019728792003956564819968 < N256 ∧ wd0 (h + 57896044618658097711785492504343953926634992332820282019728792003956564819968) = wd0 h ∧ wd1 (h + 57896044618658097711785492504343953926634992332820282019728792003956564819968) = wd1 h ∧ wd2 (h + 57896044618658097711785492504343953926634992332820282019728792003956564819968) = wd2 h ∧ wd3 (h + 57896044618658097711785492504343953926634992332820282019728792003956564819968) = wd3 h + 9223372036854775808 ∧ wd3 h < 9223372036854775808 := by
 unfold N256 at hh
 unfold wd0 wd1 wd2 wd3 N256
 refine ⟨by omega, by omega, by omega, by omega, by omega, by omega⟩
theorem or_top (a : Nat) (ha : a < 9223372036854775808) : bits .or .u64 (a : Int) 9223372036854775808 = ((a + 9223372036854775808 : Nat) : Int) := by
 have h := u64_or_nat a 9223372036854775808 (by omega) (by omega)
 rw [show ((9223372036854775808 : Nat) : Int) = 9223372036854775808 from rfl] at h
 rw [h]
 have h2 := Nat.two_pow_add_eq_or_of_lt (i := 63) (b := a) (by omega) 1
 rw [show 2 ^ 63 * 1 = 9223372036854775808 from by decide, Nat.or_comm] at h2
 rw [← h2, Nat.add_comm]
theorem NAt.high {w : World} {g h l : Nat} (hN : NAt w g h) {n : Nat} (he : wd0 n = wd0 h ∧ wd1 n = wd1 h ∧ wd2 n = wd2 h ∧ wd3 n = l) : NAt (w.setCell ⟨g, 3, none⟩ (.int .u64 (l : Nat))) g n := by
 have h1 := Row.set hN 3 (.int .u64 (l : Nat))
 unfold NAt nw
 rw [he.1, he.2.1, he.2.2.1, he.2.2.2]
 exact h1
theorem half_sum (m a : Nat) (ha : a < N256) (hm : m < N256) : let n := (a + m) % N256; (¬ N256 ≤ a + m → n / 2 = (a + m) / 2) ∧ (N256 ≤ a + m → n / 2 + 57896044618658097711785492504343953926634992332820282019728792003956564819968 = (a + m) / 2) := by
 intro n
 show (¬ N256 ≤ a + m → (a + m) % N256 / 2 = (a + m) / 2) ∧ (N256 ≤ a + m → (a + m) % N256 / 2 + 57896044618658097711785492504343953926634992332820282019728792003956564819968 = (a + m) / 2)
 unfold N256 at *
 omega
set_option maxRecDepth 100000 in
set_option maxHeartbeats 8000000 in
/-- (*field.Field).half -/
theorem fhalf_calls {gf m t o s : Nat} (a : Nat) (w : World) (hF : FAt w gf m t o s) (hm : m < N256) (ha : a < N256) :
  Calls Try.prog 82 #[.pointer (some ⟨gf, 0, none⟩), numV a] w fun e w' => e = .returned (numV (hf m a)) ∧ Below w.heap.size w w' := by
 have HG : Aside0 (gf < w.heap.size) := Aside0.mk hF.size
 obtain ⟨r, hr⟩ : ∃ r, r = hf m a := ⟨_, rfl⟩
 obtain ⟨b, hb⟩ : ∃ b, b = a % 2 := ⟨_, rfl⟩
 have f1 := and_bit (wd0 a) b (by rw [hb, wd0_even]) (wd0_lt a)
 rw [← hr]
 rw [numV_def a]
 by_cases hev : a % 2 = 0
 ·have HH := Aside0.mk (fun u => half_calls (IsNum.mk ha) u)
  have HRa : Aside0 (r = a / 2) := Aside0.mk (by rw [hr]; unfold hf; rw [if_pos hev])
  rw [← HRa.out] at HH
  have d1 := b_even (b := b) (by omega)
  clear hr hb hev hm ha
  go_enter Try.func82, Try.ntmps82
  go_upto_region 1 with (fail)
  refine wp_at (w2 := (World.alloc (World.alloc w (.cells (nw a).toArray 24)) (.cells (nw 0).toArray 24))) rfl ?_
  obtain ⟨x_0, e_0, h_0, b_0, s_0⟩ := new_num w a
  obtain ⟨x_1, e_1, h_1, b_1, s_1⟩ := new_num x_0 0
  rw [e_0, e_1]
  rw [s_0] at h_1 s_1
  have HB : Aside0 (Below w.heap.size w x_1) := Aside0.mk (bl_both b_0 b_1)
  have HA : Aside0 (NAt x_1 (w.heap.size) a) := Aside0.mk (h_0.on b_1)
  have HR : Aside0 (NAt x_1 (w.heap.size + 1) 0) := Aside0.mk h_1
  have HS : Aside0 (w.heap.size + 1 + 1 ≤ x_1.heap.size) := Aside0.mk (Nat.le_of_eq s_1.symm)
  have HF := Aside0.mk (hF.on HB.out)
  clear e_0 h_0 b_0 s_0 e_1 h_1 b_1 s_1 hF
  obtain ⟨w1, hw_⟩ : ∃ x, x = x_1 := ⟨_, rfl⟩
  subst hw_
  clear x_0
  have ca0 := HA.out.cell.1
  go_upto_region 2 with (fail)
  clear ca0 f1 d1
  go_wp2_with (first | ((with_reducible refine gate_dst (N := 11) rfl ?_); refine ld_num (HA.out.range) rfl _ rfl rfl ?_) | ((with_reducible refine gate_callee (f := 81) rfl ?_); refine goesL_ (some 12) rfl rfl Try.func81 (by kernel_rfl) rfl #[numV a] rfl (by (try simp only [List.map_toArray, List.map_cons, List.map_nil]); first | done | rfl) ?_; (with_reducible refine (HH.out _).mono ?_); rintro e u1 ⟨rfl, hb1⟩; replace HA := Aside0.mk (HA.out.on hb1); replace HR := Aside0.mk (HR.out.on hb1); replace HF := Aside0.mk (HF.out.on hb1); replace HB := Aside0.mk (bl_on HB.out hb1 HB.out.size); replace HS := Aside0.mk (Nat.le_trans HS.out hb1.size); clear hb1; refine ⟨_, rfl, ?_⟩) | ((with_reducible refine gate_st (y := .tmp 12) rfl ?_); refine st_num (HR.out) rfl _ _ rfl rfl rfl ?_; intro u2 hA2 hT2; replace HA := Aside0.mk (HA.out.but hT2 (by omega)); replace HF := Aside0.mk (HF.out.but hT2 (by have := HG.out; omega)); replace HR := Aside0.mk hA2; replace HB := Aside0.mk (bl_but HB.out hT2 HB.out.size (by omega)); replace HS := Aside0.mk (Nat.le_trans HS.out hT2.size); clear hA2 hT2))
  exact bodyPost_ret (v := numV r) (results_nat rfl rfl HR.out) rfl ⟨rfl, HB.out⟩
 ·have HC := Aside0.mk (fun u => add_calls (IsNum.mk ha) (IsNum.mk hm) u)
  have hs := half_sum m a ha hm
  obtain ⟨n, hn⟩ : ∃ n, n = (a + m) % N256 := ⟨_, rfl⟩
  obtain ⟨D, hD⟩ : ∃ D, D = decide (N256 ≤ a + m) := ⟨_, rfl⟩
  simp only [← hn] at hs
  rw [← hn, ← hD] at HC
  have hnN : n < N256 := by rw [hn]; exact Nat.mod_lt _ N256_pos
  have HH := Aside0.mk (fun u => half_calls (IsNum.mk hnN) u)
  have hr2 : r = (a + m) / 2 := by rw [hr]; unfold hf; rw [if_neg hev]
  rw [← hr2] at hs
  obtain ⟨h, hh⟩ : ∃ h, h = n / 2 := ⟨_, rfl⟩
  rw [← hh] at HH hs
  have F1 : Aside0 (D = false → h = r) := Aside0.mk (fun e => hs.1 (by rw [e] at hD; simpa using hD.symm))
  have F2 : Aside0 (D = true → h + 57896044618658097711785492504343953926634992332820282019728792003956564819968 = r) := Aside0.mk (fun e => hs.2 (by rw [e] at hD; simpa using hD.symm))
  have HTW := Aside0.mk (top_words h (by omega))
  have d1 := b_odd (b := b) (by omega)
  clear hr hb hev hm ha hn hD hnN hr2 hh hs
  go_enter Try.func82, Try.ntmps82
  go_upto_region 1 with (fail)
  refine wp_at (w2 := (World.alloc (World.alloc w (.cells (nw a).toArray 24)) (.cells (nw 0).toArray 24))) rfl ?_
  obtain ⟨x_0, e_0, h_0, b_0, s_0⟩ := new_num w a
  obtain ⟨x_1, e_1, h_1, b_1, s_1⟩ := new_num x_0 0
  rw [e_0, e_1]
  rw [s_0] at h_1 s_1
  have HB : Aside0 (Below w.heap.size w x_1) := Aside0.mk (bl_both b_0 b_1)
  have HA : Aside0 (NAt x_1 (w.heap.size) a) := Aside0.mk (h_0.on b_1)
  have HR : Aside0 (NAt x_1 (w.heap.size + 1) 0) := Aside0.mk h_1
  have HS : Aside0 (w.heap.size + 1 + 1 ≤ x_1.heap.size) := Aside0.mk (Nat.le_of_eq s_1.symm)
  have HF := Aside0.mk (hF.on HB.out)
  clear e_0 h_0 b_0 s_0 e_1 h_1 b_1 s_1 hF
  obtain ⟨w1, hw_⟩ : ∃ x, x = x_1 := ⟨_, rfl⟩
  subst hw_
  clear x_0
  have ca0 := HA.out.cell.1
  go_upto_region 3 with (fail)
  clear ca0 f1 d1
  refine start_ (n := 12) (S := fun w' => Below w1.heap.size w1 w') (ds := [10]) (bs 12 0) (by kernel_rfl) rfl rfl ((Below.refl _ _).drew) (fun hHeld => ?_)
  refine pu_ 1 15 (bs 12 2) ?_ ?_ ?_ ?_ ?_
  rotate_left
  ·intro w'
   go_simp
   with_reducible rfl
  rotate_left
  ·simp only [aS, i64_w, i32_w]
   rfl
  refine pu_ 2 16 (bs 12 6) ?_ ?_ ?_ ?_ ?_
  rotate_left
  ·intro w'
   go_simp
   with_reducible rfl
  rotate_left
  ·simp only [aS, i64_w, i32_w]
   rfl
  refine pu_ 3 17 (bs 12 14) ?_ ?_ ?_ ?_ ?_
  rotate_left
  ·intro w'
   go_simp
   with_reducible rfl
  rotate_left
  ·simp only [aS, i64_w, i32_w]
   rfl
  refine take_ (i := 0) (N := some 14) (a' := ?_) (bs 12 15) rfl rfl (by kernel_rfl) (fun _ _ _ h => h) (yields_num (g := w.heap.size) (o := 0) (n := a) (by rfl) (.tmp 3) rfl rfl (fun w' hS => (HA.out.below hS HA.out.size).range)) hHeld ?_ ?_
  rotate_left
  ·simp only [aS, i64_w, i32_w]
   rfl
  refine take_ (i := 4) (N := some 18) (a' := ?_) (bs 12 31) rfl rfl (by kernel_rfl) (fun _ _ _ h => h) (yields_num (g := gf) (o := 0) (n := m) (by rfl) (.tmp 17) rfl rfl (fun w' hS => (HF.out.below hS HF.out.size).range0)) hHeld ?_ ?_
  rotate_left
  ·simp only [aS, i64_w, i32_w]
   rfl
  refine join_ (σ := Nat) 2 (bs 12 1023) (fun s => [(5, .pointer (some ⟨s, 0, none⟩)), (19, .tuple #[numV n, .bool D]), (13, .tuple #[numV n, .bool D]), (20, numV n), (21, .bool D)]) (fun s w' => Below w1.heap.size w1 w' ∧ NAt w' s 0 ∧ w1.heap.size ≤ s) ?_ ?_
  rotate_left
  ·intro hCont
   refine tw_ 5 9 (some 19) (some 5) (bs 12 63) (bs 12 543) rfl rfl (fun K hK => ?_) (fun K hK => ?_)
   ·skip
    refine gs_ Try.func24 #[numV a, numV m] rfl ?_
    with_reducible refine (HC.out _).mono ?_
    rintro e u1 ⟨rfl, hb_u1⟩
    refine ⟨_, rfl, ?_⟩
    refine hK.out _ _ (bl_on hHeld hb_u1 hHeld.size) (fun hHeld => ?_)
    clear hK K
    refine nm_ (some 19) ?_
    refine pu_ 6 13 (bs 12 127) ?_ ?_ ?_ ?_ ?_
    rotate_left
    ·intro w'
     go_simp
     with_reducible rfl
    rotate_left
    ·simp only [aS, i64_w, i32_w]
     rfl
    refine pu_ 7 20 (bs 12 255) ?_ ?_ ?_ ?_ ?_
    rotate_left
    ·intro w'
     go_simp
     with_reducible rfl
    rotate_left
    ·simp only [aS, i64_w, i32_w]
     rfl
    refine pu_ 8 21 (bs 12 511) ?_ ?_ ?_ ?_ ?_
    rotate_left
    ·intro w'
     go_simp
     with_reducible rfl
    rotate_left
    ·simp only [aS, i64_w, i32_w]
     rfl
    refine on1_ 9 (some 5) (bs 12 1023) rfl fun K hK => ?_
    refine value_ (w1 := ?_) (v := ?_) (by rfl) rfl ?_ ?_
    rotate_left 2
    ·go_simp
     constructor
     ·rfl
     ·rfl
    have hz : NAt (World.alloc u1 (.cells (nw 0).toArray 24)) (u1).heap.size 0 := Row.new u1 _ (nw 0)
    have hs : w1.heap.size ≤ (u1).heap.size := hHeld.size
    refine hK.out _ _ (below_alloc hHeld _) (fun hHeld => ?_)
    clear hK K
    refine nm_ (some 5) ?_
    exact norm_ (by simp only [putAll, aS]) (hCont (u1).heap.size _ ⟨hHeld, hz, hs⟩)
   ·skip
    refine value_ (w1 := ?_) (v := ?_) (by rfl) rfl ?_ ?_
    rotate_left 2
    ·go_simp
     constructor
     ·rfl
     ·rfl
    have hz : NAt (World.alloc (World.drew w1) (.cells (nw 0).toArray 24)) ((World.drew w1)).heap.size 0 := Row.new (World.drew w1) _ (nw 0)
    have hs : w1.heap.size ≤ ((World.drew w1)).heap.size := hHeld.size
    refine hK.out _ _ (below_alloc hHeld _) (fun hHeld => ?_)
    clear hK K
    refine nm_ (some 5) ?_
    refine on1_ 5 (some 19) (bs 12 575) rfl fun K hK => ?_
    refine gs_ Try.func24 #[numV a, numV m] rfl ?_
    with_reducible refine (HC.out _).mono ?_
    rintro e u1 ⟨rfl, hb_u1⟩
    refine ⟨_, rfl, ?_⟩
    replace hz := hz.on hb_u1
    refine hK.out _ _ (bl_on hHeld hb_u1 hHeld.size) (fun hHeld => ?_)
    clear hK K
    refine nm_ (some 19) ?_
    refine pu_ 6 13 (bs 12 639) ?_ ?_ ?_ ?_ ?_
    rotate_left
    ·intro w'
     go_simp
     with_reducible rfl
    rotate_left
    ·simp only [aS, i64_w, i32_w]
     rfl
    refine pu_ 7 20 (bs 12 767) ?_ ?_ ?_ ?_ ?_
    rotate_left
    ·intro w'
     go_simp
     with_reducible rfl
    rotate_left
    ·simp only [aS, i64_w, i32_w]
     rfl
    refine pu_ 8 21 (bs 12 1023) ?_ ?_ ?_ ?_ ?_
    rotate_left
    ·intro w'
     go_simp
     with_reducible rfl
    rotate_left
    ·simp only [aS, i64_w, i32_w]
     rfl
    exact norm_ (by simp only [putAll, aS]) (hCont w1.heap.size _ ⟨hHeld, hz, hs⟩)
  rintro g7 w5 ⟨hHeld, hz, hs⟩
  refine norm_ (a' := ?_) ?_ ?_
  rotate_left
  ·simp only [putAll, aS]
   rfl
  refine last_ (i := 10) (N := none) (bs 12 2047) rfl rfl (by kernel_rfl) (by decide) (fun K hK => ?_)
  refine skip_num hz (by rfl) rfl (.tmp 5) (.tmp 20) rfl rfl rfl ?_
  intro u6 hA6 hT6
  refine hK.out _ _ ?_
  clear hK K
  refine pu_ 11 6 (bs 12 4095) ?_ ?_ ?_ ?_ ?_
  rotate_left
  ·intro w'
   go_simp
   with_reducible rfl
  rotate_left
  ·simp only [aS, i64_w, i32_w]
   rfl
  refine done_ (by kernel_rfl) ?_
  have HXg7 : Aside0 (w.heap.size + 1 + 1 ≤ g7) := Aside0.mk (Nat.le_trans HS.out hs)
  have HN := Aside0.mk hz
  replace HA := Aside0.mk (HA.out.on hHeld)
  replace HR := Aside0.mk (HR.out.on hHeld)
  replace HF := Aside0.mk (HF.out.on hHeld)
  replace HB := Aside0.mk (bl_on HB.out hHeld HB.out.size)
  replace HS := Aside0.mk (Nat.le_trans HS.out hHeld.size)
  clear hHeld hs hz HC
  replace HA := Aside0.mk (HA.out.but hT6 (by have := HG.out; have := HXg7.out; omega))
  replace HR := Aside0.mk (HR.out.but hT6 (by have := HG.out; have := HXg7.out; omega))
  replace HF := Aside0.mk (HF.out.but hT6 (by have := HG.out; have := HXg7.out; omega))
  replace HN := Aside0.mk hA6
  replace HB := Aside0.mk (bl_but HB.out hT6 HB.out.size (by have := HXg7.out; omega))
  replace HS := Aside0.mk (Nat.le_trans HS.out hT6.size)
  clear hA6 hT6
  go_upto_region 5 with (first | ((with_reducible refine gate_dst (N := 22) rfl ?_); refine ld_num (HN.out.range) rfl _ rfl rfl ?_) | ((with_reducible refine gate_callee (f := 81) rfl ?_); refine goesL_ (some 23) rfl rfl Try.func81 (by kernel_rfl) rfl #[numV n] rfl (by (try simp only [List.map_toArray, List.map_cons, List.map_nil]); first | done | rfl) ?_; (with_reducible refine (HH.out _).mono ?_); rintro e u7 ⟨rfl, hb7⟩; replace HA := Aside0.mk (HA.out.on hb7); replace HR := Aside0.mk (HR.out.on hb7); replace HF := Aside0.mk (HF.out.on hb7); replace HN := Aside0.mk (HN.out.on hb7); replace HB := Aside0.mk (bl_on HB.out hb7 HB.out.size); replace HS := Aside0.mk (Nat.le_trans HS.out hb7.size); clear hb7; refine ⟨_, rfl, ?_⟩) | ((with_reducible refine gate_st (y := .tmp 23) rfl ?_); refine st_num (HN.out) rfl _ _ rfl rfl rfl ?_; intro u8 hA8 hT8; replace HA := Aside0.mk (HA.out.but hT8 (by have := HG.out; have := HXg7.out; omega)); replace HR := Aside0.mk (HR.out.but hT8 (by have := HG.out; have := HXg7.out; omega)); replace HF := Aside0.mk (HF.out.but hT8 (by have := HG.out; have := HXg7.out; omega)); replace HN := Aside0.mk hA8; replace HB := Aside0.mk (bl_but HB.out hT8 HB.out.size (by have := HXg7.out; omega)); replace HS := Aside0.mk (Nat.le_trans HS.out hT8.size); clear hA8 hT8))
  cases D with
  | false =>
   have E2 : h = r := F1.out rfl
   subst E2
   clear F1 F2 HH HTW
   go_wp2_with (first | ((with_reducible refine gate_dst (N := 29) rfl ?_); refine ld_num (HN.out.range) rfl _ rfl rfl ?_) | ((with_reducible refine gate_st (y := .tmp 29) rfl ?_); refine st_num (HR.out) rfl _ _ rfl rfl rfl ?_; intro u9 hA9 hT9; replace HA := Aside0.mk (HA.out.but hT9 (by have := HG.out; have := HXg7.out; omega)); replace HF := Aside0.mk (HF.out.but hT9 (by have := HG.out; have := HXg7.out; omega)); replace HN := Aside0.mk (HN.out.but hT9 (by have := HG.out; have := HXg7.out; omega)); replace HR := Aside0.mk hA9; replace HB := Aside0.mk (bl_but HB.out hT9 HB.out.size (by omega)); replace HS := Aside0.mk (Nat.le_trans HS.out hT9.size); clear hA9 hT9))
   exact bodyPost_ret (v := numV h) (results_nat rfl rfl HR.out) rfl ⟨rfl, HB.out⟩
  | true =>
   have E2 := F2.out rfl
   obtain ⟨l3, hl3⟩ : ∃ l, l = wd3 h + 9223372036854775808 := ⟨_, rfl⟩
   have f3 : bits .or .u64 ((wd3 h : Nat) : Int) 9223372036854775808 = (l3 : Int) := by rw [hl3]; exact or_top _ HTW.out.2.2.2.2.2
   have HTR := Aside0.mk HTW.out.2
   rw [E2, ← hl3] at HTR
   clear F1 F2 HH hl3 E2 HTW
   have cn := HN.out.cell.2.2.2
   have cz := HN.out.free 3
   go_upto_region 7 with (fail)
   have hA9 : NAt (World.setCell u8 ⟨g7, 3, none⟩ (.int .u64 (l3 : Int))) g7 r := NAt.high HN.out ⟨HTR.out.1, HTR.out.2.1, HTR.out.2.2.1, HTR.out.2.2.2.1⟩
   have hT9 : But u8.heap.size g7 u8 (World.setCell u8 ⟨g7, 3, none⟩ (.int .u64 (l3 : Int))) := but_set _ _ _
   generalize (World.setCell u8 ⟨g7, 3, none⟩ (.int .u64 (l3 : Int))) = u9 at *
   clear cn cz f3
   replace HA := Aside0.mk (HA.out.but hT9 (by have := HG.out; have := HXg7.out; omega))
   replace HR := Aside0.mk (HR.out.but hT9 (by have := HG.out; have := HXg7.out; omega))
   replace HF := Aside0.mk (HF.out.but hT9 (by have := HG.out; have := HXg7.out; omega))
   replace HN := Aside0.mk hA9
   replace HB := Aside0.mk (bl_but HB.out hT9 HB.out.size (by have := HXg7.out; omega))
   replace HS := Aside0.mk (Nat.le_trans HS.out hT9.size)
   clear hA9 hT9
   go_wp2_with (first | ((with_reducible refine gate_dst (N := 29) rfl ?_); refine ld_num (HN.out.range) rfl _ rfl rfl ?_) | ((with_reducible refine gate_st (y := .tmp 29) rfl ?_); refine st_num (HR.out) rfl _ _ rfl rfl rfl ?_; intro u10 hA10 hT10; replace HA := Aside0.mk (HA.out.but hT10 (by have := HG.out; have := HXg7.out; omega)); replace HF := Aside0.mk (HF.out.but hT10 (by have := HG.out; have := HXg7.out; omega)); replace HN := Aside0.mk (HN.out.but hT10 (by have := HG.out; have := HXg7.out; omega)); replace HR := Aside0.mk hA10; replace HB := Aside0.mk (bl_but HB.out hT10 HB.out.size (by omega)); replace HS := Aside0.mk (Nat.le_trans HS.out hT10.size); clear hA10 hT10))
   exact bodyPost_ret (v := numV r) (results_nat rfl rfl HR.out) rfl ⟨rfl, HB.out⟩
/-- block g holds a pair -/
def PAt (w : World) (g n b : Nat) : Prop := Row 94 w g (nw n ++ nw b)
def pairV (n b : Nat) : Value := .agg (nw n ++ nw b).toArray
theorem pair_one (n b : Nat) : ∀ v ∈ nw n ++ nw b, v.oneCell' = true := by
 intro v hv
 rcases List.mem_append.1 hv with h | h
 ·exact nw_one n v h
 ·exact nw_one b v h
section
variable {w w' : World} {g n b : Nat}
theorem PAt.size (h : PAt w g n b) : g < w.heap.size := Row.size h
theorem PAt.below {B : Nat} (h : PAt w g n b) (hb : Below B w w') (hg : g < B) : PAt w' g n b := Row.below h hb hg
theorem PAt.on (h : PAt w g n b) (hb : Below w.heap.size w w') : PAt w' g n b := Row.below h hb h.size
theorem PAt.but {g1 : Nat} (h : PAt w g n b) (hb : But w.heap.size g1 w w') (hg : g ≠ g1) : PAt w' g n b := Row.block h (hb.block g h.size hg)
theorem PAt.range0 (h : PAt w g n b) : w.rangeAt g 0 (nw n) := Row.range h 0 4
theorem PAt.range4 (h : PAt w g n b) : w.rangeAt g 4 (nw b) := Row.range h 4 4
theorem PAt.range (h : PAt w g n b) : w.rangeAt g 0 (nw n ++ nw b) := Row.range h 0 8
theorem PAt.cell (h : PAt w g n b) : w.cell? ⟨g, 0, none⟩ = some (.int .u64 (wd0 n : Nat)) ∧ w.cell? ⟨g, 1, none⟩ = some (.int .u64 (wd1 n : Nat)) ∧ w.cell? ⟨g, 2, none⟩ = some (.int .u64 (wd2 n : Nat)) ∧ w.cell? ⟨g, 3, none⟩ = some (.int .u64 (wd3 n : Nat)) := ⟨Row.cell h _ _ rfl, Row.cell h _ _ rfl, Row.cell h _ _ rfl, Row.cell h _ _ rfl⟩
theorem PAt.setN (h : PAt w g n b) (c : Nat) : PAt (w.setCells g 0 (nw c)) g c b := by
 have h1 := (((Row.set h 0 (.int .u64 (wd0 c : Nat))).set 1 (.int .u64 (wd1 c : Nat))).set 2 (.int .u64 (wd2 c : Nat))).set 3 (.int .u64 (wd3 c : Nat))
 exact h1
theorem PAt.setB (h : PAt w g n b) (c : Nat) : PAt (w.setCells g 4 (nw c)) g n c := by
 have h1 := (((Row.set h 4 (.int .u64 (wd0 c : Nat))).set 5 (.int .u64 (wd1 c : Nat))).set 6 (.int .u64 (wd2 c : Nat))).set 7 (.int .u64 (wd3 c : Nat))
 exact h1
theorem PAt.setP (h : PAt w g n b) (c d : Nat) : PAt (w.setCells g 0 (nw c ++ nw d)) g c d := by
 have h1 := (((((((Row.set h 0 (.int .u64 (wd0 c : Nat))).set 1 (.int .u64 (wd1 c : Nat))).set 2 (.int .u64 (wd2 c : Nat))).set 3 (.int .u64 (wd3 c : Nat))).set 4 (.int .u64 (wd0 d : Nat))).set 5 (.int .u64 (wd1 d : Nat))).set 6 (.int .u64 (wd2 d : Nat))).set 7 (.int .u64 (wd3 d : Nat))
 exact h1
theorem new_pair (w : World) (n b : Nat) : ∃ w1, w.alloc (.cells (nw n ++ nw b).toArray 94) = w1 ∧ PAt w1 w.heap.size n b ∧ Below w.heap.size w w1 ∧ w1.heap.size = w.heap.size + 1 :=
 ⟨_, rfl, Row.new w _ _, below_alloc (Below.refl _ _) _, by simp⟩
end
section
variable {ops : Array Oper} {rest : List Oper} {op : Oper} {a : Act} {w : World} {Q : Exit → Act → World → Prop}
theorem ld_pair {g n b : Nat} (h : PAt w g n b) (hgd : op.guard = none) (x : Operand) (ho : op.op = .load 94 x) (hx : a.eval x = .pointer (some ⟨g, 0, none⟩))
  (k : wpList Try.prog ops Q rest (a.put op.dst (pairV n b)) w) : wpList Try.prog ops Q (op :: rest) a w :=
 wpList_load_mid hgd 94 x ho g 0 hx (nw n ++ nw b) _ h.range rfl rfl rfl k
theorem st_pair {g n b n0 b0 : Nat} (h : PAt w g n0 b0) (hgd : op.guard = none) (x y : Operand) (ho : op.op = .store 94 x y) (hx : a.eval x = .pointer (some ⟨g, 0, none⟩)) (hy : a.eval y = pairV n b)
  (k : ∀ w', PAt w' g n b → But w.heap.size g w w' → wpList Try.prog ops Q rest (a.put op.dst undef) w') : wpList Try.prog ops Q (op :: rest) a w :=
 wpList_store_mid hgd 94 x y ho g 0 (nw n ++ nw b).toArray hx hy (Row.there h 0 8 (Nat.le_refl 8)) rfl (all_oneCell_toArray (pair_one n b)) (k _ (h.setP n b) (but_cells _ _ _ (But.of (Below.refl _ _))))
theorem skip_pn {K : Act → World → Prop} {g n n0 b : Nat} (h : PAt w g n0 b) (hw : Region.wanted op (yielded ops a.tmps) = true) (hN : op.dst = none) (x y : Operand) (ho : op.op = .store 24 x y) (hx : a.eval x = .pointer (some ⟨g, 0, none⟩)) (hy : a.eval y = numV n)
  (k : ∀ w', PAt w' g n b → But w.heap.size g w w' → K a w') : if Region.wanted op (yielded ops a.tmps) = true then Oper.wp Try.prog op a w K Q else K (a.put none undef) w := by
 rw [if_pos hw]
 refine wp_store_mid 24 x y ho g 0 (nw n).toArray hx hy (Row.there h 0 4 (show (0 : Nat) + 4 ≤ 8 from by decide)) rfl (all_oneCell_toArray (nw_one n)) ?_
 rw [hN]
 exact k _ (h.setN n) (but_cells _ _ _ (But.of (Below.refl _ _)))
theorem skip_pb {K : Act → World → Prop} {g n b0 b : Nat} (h : PAt w g n b0) (hw : Region.wanted op (yielded ops a.tmps) = true) (hN : op.dst = none) (x y : Operand) (ho : op.op = .store 24 x y) (hx : a.eval x = .pointer (some ⟨g, 4, none⟩)) (hy : a.eval y = numV b)
  (k : ∀ w', PAt w' g n b → But w.heap.size g w w' → K a w') : if Region.wanted op (yielded ops a.tmps) = true then Oper.wp Try.prog op a w K Q else K (a.put none undef) w := by
 rw [if_pos hw]
 refine wp_store_mid 24 x y ho g 4 (nw b).toArray hx hy (Row.there h 4 4 (show (4 : Nat) + 4 ≤ 8 from by decide)) rfl (all_oneCell_toArray (nw_one b)) ?_
 rw [hN]
 exact k _ (h.setB b) (but_cells _ _ _ (But.of (Below.refl _ _)))
theorem skip_pair {K : Act → World → Prop} {g n b n0 b0 : Nat} (h : PAt w g n0 b0) (hw : Region.wanted op (yielded ops a.tmps) = true) (hN : op.dst = none) (x y : Operand) (ho : op.op = .store 94 x y) (hx : a.eval x = .pointer (some ⟨g, 0, none⟩)) (hy : a.eval y = pairV n b)
  (k : ∀ w', PAt w' g n b → But w.heap.size g w w' → K a w') : if Region.wanted op (yielded ops a.tmps) = true then Oper.wp Try.prog op a w K Q else K (a.put none undef) w := by
 rw [if_pos hw]
 refine wp_store_mid 94 x y ho g 0 (nw n ++ nw b).toArray hx hy (Row.there h 0 8 (Nat.le_refl 8)) rfl (all_oneCell_toArray (pair_one n b)) ?_
 rw [hN]
 exact k _ (h.setP n b) (but_cells _ _ _ (But.of (Below.refl _ _)))
end
/-- the returned pair lies in a cell of the frame -/
theorem results_pair {fn : Func} {t : Tmp} {tmps : Array Value} {w : World} {g n b : Nat} (h : fn.results = #[.cell t 94]) (ht : tmps[t]?.getD undef = .pointer (some ⟨g, 0, none⟩))
  (hr : PAt w g n b) : (results fn tmps).run Try.prog w = .ok (pairV n b) w := by
 have c0 := Row.cell hr 0 _ rfl
 have c1 := Row.cell hr 1 _ rfl
 have c2 := Row.cell hr 2 _ rfl
 have c3 := Row.cell hr 3 _ rfl
 have c4 := Row.cell hr 4 _ rfl
 have c5 := Row.cell hr 5 _ rfl
 have c6 := Row.cell hr 6 _ rfl
 have c7 := Row.cell hr 7 _ rfl
 unfold pairV nw
 simp [results, h, ht, go_sem, c0, c1, c2, c3, c4, c5, c6, c7]
attribute [local go_sem high] eqg_num eqg_num0
/-- what a pair may be turned into -/
def OddTo (m n b n' b' : Nat) : Prop := (n = 0 → n' = 0 ∧ b' = b) ∧ (∃ k, n = n' * 2 ^ k) ∧ b' < m ∧ ∀ a, n % m = a * b % m → n' % m = a * b' % m
theorem hf_lt (m b : Nat) (hb : b < m) : hf m b < m := by unfold hf; split <;> omega
theorem hf_twice (m b : Nat) (hm : m % 2 = 1) : 2 * hf m b % m = b % m := by
 unfold hf
 split
 ·rw [show 2 * (b / 2) = b by omega]
 ·rw [show 2 * ((b + m) / 2) = b + m by omega, Nat.add_mod_right]
theorem cancel2 (m x y : Nat) (hm : m % 2 = 1) (h : 2 * x % m = 2 * y % m) : x % m = y % m := by
 have e : ∀ z, z % m = ((m + 1) / 2) * (2 * z % m) % m := fun z => by
  rw [Nat.mul_mod_mod, ← Nat.mul_assoc, show (m + 1) / 2 * 2 = m + 1 by omega, Nat.add_mul, Nat.one_mul, Nat.add_comm, Nat.add_mul_mod_self_left]
 rw [e x, e y, h]
theorem OddTo.refl {m n b : Nat} (hb : b < m) : OddTo m n b n b := ⟨fun h => ⟨h, rfl⟩, ⟨0, by simp⟩, hb, fun _ h => h⟩
theorem OddTo.step {m n b n' b' : Nat} (hm : m % 2 = 1) (h : OddTo m n b n' b') (h0 : n' ≠ 0) (he : n' % 2 = 0) : OddTo m n b (n' / 2) (hf m b') := by
 obtain ⟨h1, ⟨k, hk⟩, h2, h3⟩ := h
 refine ⟨fun hn => absurd (h1 hn).1 h0, ⟨k + 1, ?_⟩, hf_lt m b' h2, fun a ha => ?_⟩
 ·rw [hk, Nat.pow_succ, Nat.mul_comm (2 ^ k) 2, ← Nat.mul_assoc, show n' / 2 * 2 = n' by omega]
 ·apply cancel2 m _ _ hm
  have h4 := h3 a ha
  rw [show 2 * (n' / 2) = n' by omega, h4, show 2 * (a * hf m b') = a * (2 * hf m b') by rw [Nat.mul_left_comm], Nat.mul_mod, ← hf_twice m b' hm, ← Nat.mul_mod]
/-- a pair halved till it is odd -/
def odF (m c d : Nat) : Nat × Nat := if h : c ≠ 0 ∧ c % 2 = 0 then odF m (c / 2) (hf m d) else (c, d)
termination_by c
decreasing_by omega
theorem odF_go {m c d : Nat} (h : c ≠ 0 ∧ c % 2 = 0) : odF m c d = odF m (c / 2) (hf m d) := by
 conv => lhs; rw [odF]
 rw [dif_pos h]
theorem odF_end {m c d : Nat} (h : ¬ (c ≠ 0 ∧ c % 2 = 0)) : odF m c d = (c, d) := by rw [odF, dif_neg h]
theorem odF_ok (m n b : Nat) (hm : m % 2 = 1) : ∀ c d, OddTo m n b c d → c ≤ n → OddTo m n b (odF m c d).1 (odF m c d).2 ∧ (odF m c d).1 ≤ n ∧ ((odF m c d).1 = 0 ∨ (odF m c d).1 % 2 = 1) := by
 intro c
 induction c using Nat.strongRecOn with
 | _ c ih =>
  intro d h hc
  by_cases hg : c ≠ 0 ∧ c % 2 = 0
  ·rw [odF_go hg]
   exact ih (c / 2) (by omega) (hf m d) (h.step hm hg.1 hg.2) (by omega)
  ·rw [odF_end hg]
   exact ⟨h, hc, by omega⟩
theorem odF_all (m n b : Nat) (hm : m % 2 = 1) (hb : b < m) : OddTo m n b (odF m n b).1 (odF m n b).2 ∧ (odF m n b).1 ≤ n ∧ ((odF m n b).1 = 0 ∨ (odF m n b).1 % 2 = 1) := odF_ok m n b hm n b (OddTo.refl hb) (Nat.le_refl _)
/-- a cell's number -/
def natOf : Option Value → Nat
 | some (.int _ i) => i.toNat
 | _ => 0
def numIn (w : World) (g : Nat) : Nat := val4 (natOf (w.cell? ⟨g, 0, none⟩)) (natOf (w.cell? ⟨g, 1, none⟩)) (natOf (w.cell? ⟨g, 2, none⟩)) (natOf (w.cell? ⟨g, 3, none⟩))
theorem PAt.num {w : World} {g n b : Nat} (h : PAt w g n b) (hn : n < N256) : numIn w g = n := by
 obtain ⟨c0, c1, c2, c3⟩ := h.cell
 unfold numIn natOf
 rw [c0, c1, c2, c3]
 exact val_wd hn
set_option maxRecDepth 100000 in
set_option maxHeartbeats 8000000 in
/-- (*field.Field).odd -/
theorem fodd_calls {gf m t o s : Nat} (n b : Nat) (w : World) (hF : FAt w gf m t o s) (hm : m < N256) (hm1 : m % 2 = 1) (hn : n < N256) (hb : b < m) :
  Calls Try.prog 75 #[.pointer (some ⟨gf, 0, none⟩), pairV n b] w fun e w' => e = .returned (pairV (odF m n b).1 (odF m n b).2) ∧ Below w.heap.size w w' := by
 have HG : Aside0 (gf < w.heap.size) := Aside0.mk hF.size
 have HCM : Aside0 (m < N256 ∧ m % 2 = 1 ∧ n < N256 ∧ b < m) := Aside0.mk ⟨hm, hm1, hn, hb⟩
 clear hm hm1 hn hb
 obtain ⟨vp, hvp⟩ : ∃ v, v = pairV n b := ⟨_, rfl⟩
 rw [show pairV n b = .agg #[.int .u64 (wd0 n : Nat), .int .u64 (wd1 n : Nat), .int .u64 (wd2 n : Nat), .int .u64 (wd3 n : Nat), .int .u64 (wd0 b : Nat), .int .u64 (wd1 b : Nat), .int .u64 (wd2 b : Nat), .int .u64 (wd3 b : Nat)] from rfl]
 clear vp hvp
 go_enter Try.func75, Try.ntmps75
 go_upto_region 1 with (fail)
 refine wp_at (w2 := (World.alloc (World.alloc w (.cells (nw n ++ nw b).toArray 94)) (.cells (nw 0 ++ nw 0).toArray 94))) rfl ?_
 obtain ⟨x_0, e_0, h_0, b_0, s_0⟩ := new_pair w n b
 obtain ⟨x_1, e_1, h_1, b_1, s_1⟩ := new_pair x_0 0 0
 rw [e_0, e_1]
 rw [s_0] at h_1 s_1
 have HB : Aside0 (Below w.heap.size w x_1) := Aside0.mk (bl_both b_0 b_1)
 have HP : Aside0 (PAt x_1 (w.heap.size) n b) := Aside0.mk (h_0.on b_1)
 have HR : Aside0 (PAt x_1 (w.heap.size + 1) 0 0) := Aside0.mk h_1
 have HS : Aside0 (w.heap.size + 1 + 1 ≤ x_1.heap.size) := Aside0.mk (Nat.le_of_eq s_1.symm)
 have HF := Aside0.mk (hF.on HB.out)
 clear e_0 h_0 b_0 s_0 e_1 h_1 b_1 s_1 hF
 obtain ⟨w1, hw_⟩ : ∃ x, x = x_1 := ⟨_, rfl⟩
 subst hw_
 clear x_0
 go_loopw [] (fun wr => ∃ n' b' : Nat, Aside0 (odF m n' b' = odF m n b ∧ n' ≤ n ∧ b' < m) ∧ Aside0 (PAt wr (w.heap.size) n' b') ∧ Aside0 (PAt wr (w.heap.size + 1) 0 0) ∧ Aside0 (FAt wr gf m t o s) ∧ Aside0 (Below w.heap.size w wr) ∧ Aside0 (w.heap.size + 1 + 1 ≤ wr.heap.size))
  (fun wr => numIn wr w.heap.size)
 case atStart => exact ⟨n, b, Aside0.mk ⟨rfl, Nat.le_refl _, HCM.out.2.2.2⟩, HP, HR, HF, HB, HS⟩
 case round =>
  clear HP HR HF HB HS
  obtain ⟨c, d, HI, HP, HR, HF, HB, HS⟩ := hrel
  have hcN : c < N256 := Nat.lt_of_le_of_lt HI.out.2.1 HCM.out.2.2.1
  obtain ⟨u0, hu0⟩ : ∃ x, x = wr := ⟨_, rfl⟩
  subst hu0
  have q0 := fun w => neq_zero hcN w
  obtain ⟨p, hp⟩ : ∃ p, p = c % 2 := ⟨_, rfl⟩
  have f1 := and_bit (wd0 c) p (by rw [hp, wd0_even]) (wd0_lt c)
  have HCN := Aside0.mk hcN
  by_cases hgo : c ≠ 0 ∧ c % 2 = 0
  ·have HGO := Aside0.mk hgo
   have d1 : (!decide (c = 0)) = true := by simp [hgo.1]
   rw [d1] at q0
   have d2 := b_even (b := p) (by omega)
   have HH := Aside0.mk (fun u => half_calls (IsNum.mk hcN) u)
   have HK := Aside0.mk (fun (u : World) (h : FAt u gf m t o s) => fhalf_calls d u h HCM.out.1 (Nat.lt_trans HI.out.2.2 HCM.out.1))
   have HN0 : Aside0 (numIn u0 w.heap.size = c) := Aside0.mk (HP.out.num hcN)
   have ca0 := HP.out.cell.1
   clear hgo hp d1 hcN
   go_upto_region 2 with (first | ((with_reducible refine gate_dst (N := 6) rfl ?_); refine ld_num (HP.out.range0) rfl _ rfl rfl ?_))
   clear ca0 f1 d2 q0
   go_wp2
   refine start_ (n := 11) (S := fun w' => Below u0.heap.size u0 w') (ds := [8, 10]) (bs 11 0) (by kernel_rfl) rfl rfl ((Below.refl _ _).drew) (fun hHeld => ?_)
   refine pu_ 0 16 (bs 11 1) ?_ ?_ ?_ ?_ ?_
   rotate_left
   ·intro w'
    go_simp
    with_reducible rfl
   rotate_left
   ·simp only [aS, i64_w, i32_w]
    rfl
   refine pu_ 3 19 (bs 11 9) ?_ ?_ ?_ ?_ ?_
   rotate_left
   ·intro w'
    go_simp
    with_reducible rfl
   rotate_left
   ·simp only [aS, i64_w, i32_w]
    rfl
   refine pu_ 4 20 (bs 11 25) ?_ ?_ ?_ ?_ ?_
   rotate_left
   ·intro w'
    go_simp
    with_reducible rfl
   rotate_left
   ·simp only [aS, i64_w, i32_w]
    rfl
   refine take_ (i := 1) (N := some 17) (a' := ?_) (bs 11 27) rfl rfl (by kernel_rfl) (fun _ _ _ h => h) (yields_num (g := w.heap.size) (o := 0) (n := c) (by rfl) (.tmp 16) rfl rfl (fun w' hS => (HP.out.below hS HP.out.size).range0)) hHeld ?_ ?_
   rotate_left
   ·simp only [aS, i64_w, i32_w]
    rfl
   refine take_ (i := 5) (N := some 21) (a' := ?_) (bs 11 59) rfl rfl (by kernel_rfl) (fun _ _ _ h => h) (yields_num (g := w.heap.size) (o := 4) (n := d) (by rfl) (.tmp 20) rfl rfl (fun w' hS => (HP.out.below hS HP.out.size).range4)) hHeld ?_ ?_
   rotate_left
   ·simp only [aS, i64_w, i32_w]
    rfl
   refine on1_ 2 (some 18) (bs 11 63) rfl fun K hK => ?_
   refine gs_ Try.func81 #[numV c] rfl ?_
   with_reducible refine (HH.out _).mono ?_
   rintro e u1 ⟨rfl, hb1⟩
   refine ⟨_, rfl, ?_⟩
   refine hK.out _ _ (hHeld.trans (hb1.mono hHeld.size)) (fun hHeld => ?_)
   clear hK K
   refine nm_ (some 18) ?_
   refine pu_ 7 23 (bs 11 191) ?_ ?_ ?_ ?_ ?_
   rotate_left
   ·intro w'
    go_simp
    with_reducible rfl
   rotate_left
   ·simp only [aS, i64_w, i32_w]
    rfl
   refine on1_ 6 (some 22) (bs 11 255) rfl fun K hK => ?_
   refine gs_ Try.func82 #[.pointer (some ⟨gf, 0, none⟩), numV d] rfl ?_
   with_reducible refine (HK.out _ (HF.out.below hHeld HF.out.size)).mono ?_
   rintro e u2 ⟨rfl, hb2⟩
   refine ⟨_, rfl, ?_⟩
   refine hK.out _ _ (hHeld.trans (hb2.mono hHeld.size)) (fun hHeld => ?_)
   clear hK K
   refine nm_ (some 22) ?_
   refine last_ (i := 8) (N := none) (bs 11 511) rfl rfl (by kernel_rfl) (by decide) (fun K hK => ?_)
   refine skip_pn (HP.out.below hHeld HP.out.size) (by rfl) rfl (.tmp 23) (.tmp 18) rfl rfl rfl ?_
   intro u3 hA3 hT3
   refine hK.out _ _ ?_
   clear hK K
   refine pu_ 9 24 (bs 11 1023) ?_ ?_ ?_ ?_ ?_
   rotate_left
   ·intro w'
    go_simp
    with_reducible rfl
   rotate_left
   ·simp only [aS, i64_w, i32_w]
    rfl
   refine last_ (i := 10) (N := none) (bs 11 2047) rfl rfl (by kernel_rfl) (by decide) (fun K hK => ?_)
   refine skip_pb hA3 (by rfl) rfl (.tmp 24) (.tmp 22) rfl rfl rfl ?_
   intro u4 hA4 hT4
   refine hK.out _ _ ?_
   clear hK K
   refine done_ (by kernel_rfl) ?_
   replace HP := Aside0.mk (HP.out.on hHeld)
   replace HR := Aside0.mk (HR.out.on hHeld)
   replace HF := Aside0.mk (HF.out.on hHeld)
   replace HB := Aside0.mk (bl_on HB.out hHeld HB.out.size)
   replace HS := Aside0.mk (Nat.le_trans HS.out hHeld.size)
   clear hHeld hb1 hb2
   replace HR := Aside0.mk (HR.out.but hT3 (by omega))
   replace HF := Aside0.mk (HF.out.but hT3 (by have := HG.out; omega))
   replace HP := Aside0.mk hA3
   replace HB := Aside0.mk (bl_but HB.out hT3 HB.out.size (by omega))
   replace HS := Aside0.mk (Nat.le_trans HS.out hT3.size)
   clear hA3 hT3
   replace HR := Aside0.mk (HR.out.but hT4 (by omega))
   replace HF := Aside0.mk (HF.out.but hT4 (by have := HG.out; omega))
   replace HP := Aside0.mk hA4
   replace HB := Aside0.mk (bl_but HB.out hT4 HB.out.size (by omega))
   replace HS := Aside0.mk (Nat.le_trans HS.out hT4.size)
   clear hA4 hT4
   go_wp2
   refine ⟨⟨c / 2, hf m d, ?_, HP, HR, HF, HB, HS⟩, ?_⟩
   ·exact Aside0.mk ⟨(odF_go HGO.out).symm.trans HI.out.1, Nat.le_trans (Nat.div_le_self _ _) HI.out.2.1, hf_lt m d HI.out.2.2⟩
   ·rw [HN0.out, HP.out.num (Nat.lt_of_le_of_lt (Nat.div_le_self _ _) HCN.out)]
    have := HGO.out.1
    omega
  ·have HDN : Aside0 (odF m n b = (c, d)) := Aside0.mk (HI.out.1.symm.trans (odF_end hgo))
   by_cases hc0 : c = 0
   ·have d1 : (!decide (c = 0)) = false := by simp [hc0]
    rw [d1] at q0
    clear hgo hp d1 hcN hc0 f1
    go_wp2_with (first | ((with_reducible refine gate_dst (N := 6) rfl ?_); refine ld_num (HP.out.range0) rfl _ rfl rfl ?_) | ((with_reducible refine gate_dst (N := 25) rfl ?_); refine ld_pair HP.out rfl _ rfl rfl ?_) | ((with_reducible refine gate_st (y := .tmp 25) rfl ?_); refine st_pair HR.out rfl _ _ rfl rfl rfl ?_; intro u2 hA2 hT2; replace HP := Aside0.mk (HP.out.but hT2 (by omega)); replace HF := Aside0.mk (HF.out.but hT2 (by have := HG.out; omega)); replace HR := Aside0.mk hA2; replace HB := Aside0.mk (bl_but HB.out hT2 HB.out.size (by omega)); replace HS := Aside0.mk (Nat.le_trans HS.out hT2.size); clear hA2 hT2))
    exact bodyPost_ret (v := pairV c d) (results_pair rfl rfl HR.out) rfl ⟨by rw [HDN.out], HB.out⟩
   ·have d1 : (!decide (c = 0)) = true := by simp [hc0]
    rw [d1] at q0
    have d2 := b_odd (b := p) (by omega)
    have ca0 := HP.out.cell.1
    clear hgo hp d1 hcN hc0
    go_wp2_with (first | ((with_reducible refine gate_dst (N := 6) rfl ?_); refine ld_num (HP.out.range0) rfl _ rfl rfl ?_) | ((with_reducible refine gate_dst (N := 25) rfl ?_); refine ld_pair HP.out rfl _ rfl rfl ?_) | ((with_reducible refine gate_st (y := .tmp 25) rfl ?_); refine st_pair HR.out rfl _ _ rfl rfl rfl ?_; intro u2 hA2 hT2; replace HP := Aside0.mk (HP.out.but hT2 (by omega)); replace HF := Aside0.mk (HF.out.but hT2 (by have := HG.out; omega)); replace HR := Aside0.mk hA2; replace HB := Aside0.mk (bl_but HB.out hT2 HB.out.size (by omega)); replace HS := Aside0.mk (Nat.le_trans HS.out hT2.size); clear hA2 hT2))
    exact bodyPost_ret (v := pairV c d) (results_pair rfl rfl HR.out) rfl ⟨by rw [HDN.out], HB.out⟩
end Go.Proofs.Ytkfjhndofbmhoaa
namespace Go.Proofs.Ytkfjhndofbmhoaa
open Go.RowKit Go.Proofs.Ytkfjhndofbmhoaa.Arr Go.Proofs.YtkfjhndofbmhoaaW.PrintWords Go.Proofs.YtkfjhndofbmhoaaW.PrintLast Go.Proofs.YtkfjhndofbmhoaaW.PrintMore
set_option linter.unusedVariables false
set_option linter.unusedSimpArgs false
set_option exponentiation.threshold 600
set_option maxRecDepth 100000 in
set_option maxHeartbeats 8000000 in
/-- clapperref02.Mul -/
theorem rmul_calls (a b m : Nat) (w : World) (hm : m < N256) (ha : a < m) (hb : b < N256) :
  Calls Try.prog 61 #[numV a, numV b, numV m] w fun e w' => e = .returned (numV (a * b % m)) ∧ Below w.heap.size w w' := by
 have HT : Aside0 (a * (b / 2 ^ (64 * 4)) % m = 0) := Aside0.mk (top_zero a b m (64 * 4) (by rw [show 64 * 4 = 256 from rfl, ← n256]; exact hb))
 have HE : Aside0 (a * (b / 2 ^ (64 * 0)) % m = a * b % m) := Aside0.mk (by rw [Nat.mul_zero, Nat.pow_zero, Nat.div_one])
 have HCM : Aside0 (a < m ∧ m < N256) := Aside0.mk ⟨ha, hm⟩
 generalize a * b % m = res at *
 rw [numV_def a, numV_def b, numV_def m]
 clear hm ha hb
 go_enter Try.func61, Try.ntmps61
 go_upto_region 2 with (fail)
 refine wp_at (w2 := (World.alloc (World.alloc (World.alloc (World.alloc (World.alloc w (.cells (nw a).toArray 24)) (.cells (nw b).toArray 24)) (.cells (nw m).toArray 24)) (.cells (nw 0).toArray 24)) (.cells (nw 0).toArray 24))) rfl ?_
 obtain ⟨x_0, e_0, h_0, b_0, s_0⟩ := new_num w a
 obtain ⟨x_1, e_1, h_1, b_1, s_1⟩ := new_num x_0 b
 obtain ⟨x_2, e_2, h_2, b_2, s_2⟩ := new_num x_1 m
 obtain ⟨x_3, e_3, h_3, b_3, s_3⟩ := new_num x_2 0
 obtain ⟨x_4, e_4, h_4, b_4, s_4⟩ := new_num x_3 0
 rw [e_0, e_1, e_2, e_3, e_4]
 rw [s_0] at h_1 s_1
 rw [s_1] at h_2 s_2
 rw [s_2] at h_3 s_3
 rw [s_3] at h_4 s_4
 have HB : Aside0 (Below w.heap.size w x_4) := Aside0.mk (bl_both (bl_both (bl_both (bl_both b_0 b_1) b_2) b_3) b_4)
 have HA : Aside0 (NAt x_4 (w.heap.size) a) := Aside0.mk ((((h_0.on b_1).on b_2).on b_3).on b_4)
 have HX : Aside0 (NAt x_4 (w.heap.size + 1) b) := Aside0.mk (((h_1.on b_2).on b_3).on b_4)
 have HM : Aside0 (NAt x_4 (w.heap.size + 1 + 1) m) := Aside0.mk ((h_2.on b_3).on b_4)
 have HR : Aside0 (NAt x_4 (w.heap.size + 1 + 1 + 1) 0) := Aside0.mk (h_3.on b_4)
 have HO : Aside0 (NAt x_4 (w.heap.size + 1 + 1 + 1 + 1) 0) := Aside0.mk h_4
 have HS : Aside0 (w.heap.size + 1 + 1 + 1 + 1 + 1 ≤ x_4.heap.size) := Aside0.mk (Nat.le_of_eq s_4.symm)
 clear e_0 h_0 b_0 s_0 e_1 h_1 b_1 s_1 e_2 h_2 b_2 s_2 e_3 h_3 b_3 s_3 e_4 h_4 b_4 s_4
 obtain ⟨w1, hw_⟩ : ∃ x, x = x_4 := ⟨_, rfl⟩
 subst hw_
 clear x_0 x_1 x_2 x_3
 go_wp2
 replace HO : Aside0 (NAt w1 (w.heap.size + 1 + 1 + 1 + 1) (a * (b / 2 ^ (64 * 4)) % m)) := Aside0.mk (by rw [HT.out]; exact HO.out)
 go_loopw [8] (fun v wr => ∃ j : Nat, j ≤ 4 ∧ v = .int .i64 ((j : Int) - 1) ∧ Aside0 (NAt wr (w.heap.size) (a)) ∧ Aside0 (NAt wr (w.heap.size + 1) (b)) ∧ Aside0 (NAt wr (w.heap.size + 1 + 1) (m)) ∧ Aside0 (NAt wr (w.heap.size + 1 + 1 + 1) (0)) ∧ Aside0 (NAt wr (w.heap.size + 1 + 1 + 1 + 1) (a * (b / 2 ^ (64 * j)) % m)) ∧ Aside0 (Below w.heap.size w wr) ∧ Aside0 (w.heap.size + 1 + 1 + 1 + 1 + 1 ≤ wr.heap.size))
  (fun v _ => (intOf v + 1).toNat)
 case atStart => exact ⟨4, Nat.le_refl _, rfl, HA, HX, HM, HR, HO, HB, HS⟩
 case round =>
  clear HA HX HM HR HO HB HS
  obtain ⟨j, hj, rfl, HA, HX, HM, HR, HO, HB, HS⟩ := hrel
  obtain ⟨u0, hu0⟩ : ∃ x, x = wr := ⟨_, rfl⟩
  subst hu0
  by_cases hj0 : j = 0
  ·subst hj0
   rw [HE.out] at HO
   clear hj
   go_wp2_with (first | ((with_reducible refine gate_dst (N := 35) rfl ?_); refine ld_num (HO.out.range) rfl _ rfl rfl ?_) | ((with_reducible refine gate_st (y := .tmp 35) rfl ?_); refine st_num (HR.out) rfl _ _ rfl rfl rfl ?_; intro u4 hA4 hT4; replace HA := Aside0.mk (HA.out.but hT4 (by omega)); replace HX := Aside0.mk (HX.out.but hT4 (by omega)); replace HM := Aside0.mk (HM.out.but hT4 (by omega)); replace HO := Aside0.mk (HO.out.but hT4 (by omega)); replace HR := Aside0.mk hA4; replace HB := Aside0.mk (bl_but HB.out hT4 HB.out.size (by omega)); replace HS := Aside0.mk (Nat.le_trans HS.out hT4.size); clear hA4 hT4))
   exact bodyPost_ret (v := numV res) (results_nat rfl rfl HR.out) rfl ⟨rfl, HB.out⟩
  ·obtain ⟨i, rfl⟩ : ∃ i, j = i + 1 := ⟨j - 1, by omega⟩
   have hi : i < 4 := hj
   rw [show (((i + 1 : Nat) : Int) - 1) = (i : Int) by omega]
   obtain ⟨W, hW⟩ : ∃ W, W = xw b i := ⟨_, rfl⟩
   have hWl : W < 2 ^ 64 := by rw [hW]; exact xw_lt _ _
   have cx := HX.out.word i hi
   rw [← hW] at cx
   have t1 : (0 : Int) ≤ (i : Int) := Int.natCast_nonneg i
   have t2 : (i : Int) < 4 := by omega
   have HW := Aside0.mk (And.intro hi (And.intro hW hWl))
   have HO1 : Aside0 (NAt u0 (w.heap.size + 1 + 1 + 1 + 1) (a * (b / 2 ^ (64 * i + (64 - 0))) % m)) := Aside0.mk (by have h := HO.out; rw [show 64 * (i + 1) = 64 * i + (64 - 0) by omega] at h; exact h)
   have HW0 : Aside0 (W = wk W 0) := Aside0.mk (wk_zero W hWl).symm
   clear hi hW hWl hj hj0
   go_wp2
   clear cx t1 t2
   go_loopw [9, 10] (fun vw vk wr => ∃ k : Nat, k ≤ 64 ∧ vk = .int .i64 (k : Int) ∧ vw = .int .u64 ((wk W k : Nat) : Int) ∧ Aside0 (NAt wr (w.heap.size) (a)) ∧ Aside0 (NAt wr (w.heap.size + 1) (b)) ∧ Aside0 (NAt wr (w.heap.size + 1 + 1) (m)) ∧ Aside0 (NAt wr (w.heap.size + 1 + 1 + 1) (0)) ∧ Aside0 (NAt wr (w.heap.size + 1 + 1 + 1 + 1) (a * (b / 2 ^ (64 * i + (64 - k))) % m)) ∧ Aside0 (Below w.heap.size w wr) ∧ Aside0 (w.heap.size + 1 + 1 + 1 + 1 + 1 ≤ wr.heap.size))
    (fun _ vk _ => 64 - (intOf vk).toNat)
   case atStart => exact ⟨0, Nat.zero_le _, rfl, by rw [← HW0.out], HA, HX, HM, HR, HO1, HB, HS⟩
   case round =>
    clear HA HX HM HR HO HB HS HO1
    obtain ⟨k, hk, rfl, rfl, HA, HX, HM, HR, HO, HB, HS⟩ := hrel
    obtain ⟨v0, hu0⟩ : ∃ x, x = wr := ⟨_, rfl⟩
    subst hu0
    by_cases hlt : k < 64
    ·have t1 : (k : Int) < 64 := by omega
     obtain ⟨E, hE⟩ : ∃ E, E = 64 * i + (64 - (k + 1)) := ⟨_, rfl⟩
     have hE1 : 64 * i + (64 - k) = E + 1 := by omega
     have hbit := wk_top W k hlt HW.out.2.2
     rw [HW.out.2.1, xw_at _ _ _ (by omega), ← HW.out.2.1, show 64 * i + (63 - k) = E by omega] at hbit
     have hst := dbl_step a b m E HCM.out.1
     obtain ⟨v, hv⟩ : ∃ v, v = a * (b / 2 ^ (E + 1)) % m := ⟨_, rfl⟩
     simp only [← hv] at hst
     rw [hE1, ← hv] at HO
     have hvm : v < m := by rw [hv]; exact Nat.mod_lt _ (Nat.lt_of_le_of_lt (Nat.zero_le _) HCM.out.1)
     obtain ⟨v2, hv2⟩ : ∃ x, x = (v + v) % m := ⟨_, rfl⟩
     have hv2m : v2 < m := by rw [hv2]; exact Nat.mod_lt _ (Nat.lt_of_le_of_lt (Nat.zero_le _) HCM.out.1)
     have hM := HCM.out.2
     have HC1 := Aside0.mk (fun u => fadd_calls (IsNum.mk (Nat.lt_trans hvm hM)) (IsNum.mk (Nat.lt_trans hvm hM)) (IsNum.mk hM) hvm hvm u)
     have HC2 := Aside0.mk (fun u => fadd_calls (IsNum.mk (Nat.lt_trans hv2m hM)) (IsNum.mk (Nat.lt_trans HCM.out.1 hM)) (IsNum.mk hM) hv2m HCM.out.1 u)
     rw [← hv2] at HC1 hst
     have q1 := wrap_twice (wk W k)
     rw [wk_succ] at q1
     have HLT := Aside0.mk hlt
     have HEE := Aside0.mk hE
     have q2 := inc64 hlt
     generalize wk W k = y at *
     clear hE hE1 hv hvm hv2 hv2m hM hlt hk
     rcases bit_two (b / 2 ^ E) with hb0 | hb0
     ·have hr := hst.1 hb0
      have d1 : decide ((9223372036854775808 : Int) ≤ (y : Int)) = false := decide_eq_false (by omega)
      have HR2 := Aside0.mk hr
      clear hst hbit hb0 hr
      go_upto_region 8 with (first | ((with_reducible refine gate_dst (N := 22) rfl ?_); refine ld_num (HO.out.range) rfl _ rfl rfl ?_) | ((with_reducible refine gate_dst (N := 23) rfl ?_); refine ld_num (HO.out.range) rfl _ rfl rfl ?_) | ((with_reducible refine gate_dst (N := 24) rfl ?_); refine ld_num (HM.out.range) rfl _ rfl rfl ?_) | ((with_reducible refine gate_callee (f := 36) rfl ?_); refine goesL_ (some 25) rfl rfl Try.func36 (by kernel_rfl) rfl #[numV v, numV v, numV m] rfl (by (try simp only [List.map_toArray, List.map_cons, List.map_nil]); first | done | rfl) ?_; (with_reducible refine (HC1.out _).mono ?_); rintro e v1 ⟨rfl, hb1⟩; replace HA := Aside0.mk (HA.out.on hb1); replace HX := Aside0.mk (HX.out.on hb1); replace HM := Aside0.mk (HM.out.on hb1); replace HR := Aside0.mk (HR.out.on hb1); replace HO := Aside0.mk (HO.out.on hb1); replace HB := Aside0.mk (bl_on HB.out hb1 HB.out.size); replace HS := Aside0.mk (Nat.le_trans HS.out hb1.size); clear hb1; refine ⟨_, rfl, ?_⟩) | ((with_reducible refine gate_st (y := .tmp 25) rfl ?_); refine st_num (HO.out) rfl _ _ rfl rfl rfl ?_; intro v5 hA5 hT5; replace HA := Aside0.mk (HA.out.but hT5 (by omega)); replace HX := Aside0.mk (HX.out.but hT5 (by omega)); replace HM := Aside0.mk (HM.out.but hT5 (by omega)); replace HR := Aside0.mk (HR.out.but hT5 (by omega)); replace HO := Aside0.mk hA5; replace HB := Aside0.mk (bl_but HB.out hT5 HB.out.size (by omega)); replace HS := Aside0.mk (Nat.le_trans HS.out hT5.size); clear hA5 hT5))
      go_wp2
      refine ⟨⟨k + 1, HLT.out, ?_, ?_, ?_, ?_, ?_, ?_, ?_, ?_, ?_⟩, ?_⟩
      ·(try rw [q2]); rw [Int.natCast_add]; rfl
      ·first | rfl | (rw [q1]; done) | (rw [q1]; rfl)
      ·exact HA
      ·exact HX
      ·exact HM
      ·exact HR
      ·rw [← HEE.out, ← HR2.out]; exact HO
      ·exact HB
      ·exact HS
      ·(try rw [q2]); exact meas_k HLT.out
     ·have hr := hst.2 hb0
      have d1 : decide ((9223372036854775808 : Int) ≤ (y : Int)) = true := decide_eq_true (by omega)
      have HR2 := Aside0.mk hr
      clear hst hbit hb0 hr
      go_upto_region 8 with (first | ((with_reducible refine gate_dst (N := 22) rfl ?_); refine ld_num (HO.out.range) rfl _ rfl rfl ?_) | ((with_reducible refine gate_dst (N := 23) rfl ?_); refine ld_num (HO.out.range) rfl _ rfl rfl ?_) | ((with_reducible refine gate_dst (N := 24) rfl ?_); refine ld_num (HM.out.range) rfl _ rfl rfl ?_) | ((with_reducible refine gate_callee (f := 36) rfl ?_); refine goesL_ (some 25) rfl rfl Try.func36 (by kernel_rfl) rfl #[numV v, numV v, numV m] rfl (by (try simp only [List.map_toArray, List.map_cons, List.map_nil]); first | done | rfl) ?_; (with_reducible refine (HC1.out _).mono ?_); rintro e v1 ⟨rfl, hb1⟩; replace HA := Aside0.mk (HA.out.on hb1); replace HX := Aside0.mk (HX.out.on hb1); replace HM := Aside0.mk (HM.out.on hb1); replace HR := Aside0.mk (HR.out.on hb1); replace HO := Aside0.mk (HO.out.on hb1); replace HB := Aside0.mk (bl_on HB.out hb1 HB.out.size); replace HS := Aside0.mk (Nat.le_trans HS.out hb1.size); clear hb1; refine ⟨_, rfl, ?_⟩) | ((with_reducible refine gate_st (y := .tmp 25) rfl ?_); refine st_num (HO.out) rfl _ _ rfl rfl rfl ?_; intro v5 hA5 hT5; replace HA := Aside0.mk (HA.out.but hT5 (by omega)); replace HX := Aside0.mk (HX.out.but hT5 (by omega)); replace HM := Aside0.mk (HM.out.but hT5 (by omega)); replace HR := Aside0.mk (HR.out.but hT5 (by omega)); replace HO := Aside0.mk hA5; replace HB := Aside0.mk (bl_but HB.out hT5 HB.out.size (by omega)); replace HS := Aside0.mk (Nat.le_trans HS.out hT5.size); clear hA5 hT5) | ((with_reducible refine gate_dst (N := 28) rfl ?_); refine ld_num (HO.out.range) rfl _ rfl rfl ?_) | ((with_reducible refine gate_dst (N := 29) rfl ?_); refine ld_num (HA.out.range) rfl _ rfl rfl ?_) | ((with_reducible refine gate_dst (N := 30) rfl ?_); refine ld_num (HM.out.range) rfl _ rfl rfl ?_) | ((with_reducible refine gate_callee (f := 36) rfl ?_); refine goesL_ (some 31) rfl rfl Try.func36 (by kernel_rfl) rfl #[numV v2, numV a, numV m] rfl (by (try simp only [List.map_toArray, List.map_cons, List.map_nil]); first | done | rfl) ?_; (with_reducible refine (HC2.out _).mono ?_); rintro e v7 ⟨rfl, hb7⟩; replace HA := Aside0.mk (HA.out.on hb7); replace HX := Aside0.mk (HX.out.on hb7); replace HM := Aside0.mk (HM.out.on hb7); replace HR := Aside0.mk (HR.out.on hb7); replace HO := Aside0.mk (HO.out.on hb7); replace HB := Aside0.mk (bl_on HB.out hb7 HB.out.size); replace HS := Aside0.mk (Nat.le_trans HS.out hb7.size); clear hb7; refine ⟨_, rfl, ?_⟩) | ((with_reducible refine gate_st (y := .tmp 31) rfl ?_); refine st_num (HO.out) rfl _ _ rfl rfl rfl ?_; intro v8 hA8 hT8; replace HA := Aside0.mk (HA.out.but hT8 (by omega)); replace HX := Aside0.mk (HX.out.but hT8 (by omega)); replace HM := Aside0.mk (HM.out.but hT8 (by omega)); replace HR := Aside0.mk (HR.out.but hT8 (by omega)); replace HO := Aside0.mk hA8; replace HB := Aside0.mk (bl_but HB.out hT8 HB.out.size (by omega)); replace HS := Aside0.mk (Nat.le_trans HS.out hT8.size); clear hA8 hT8))
      go_wp2
      refine ⟨⟨k + 1, HLT.out, ?_, ?_, ?_, ?_, ?_, ?_, ?_, ?_, ?_⟩, ?_⟩
      ·(try rw [q2]); rw [Int.natCast_add]; rfl
      ·first | rfl | (rw [q1]; done) | (rw [q1]; rfl)
      ·exact HA
      ·exact HX
      ·exact HM
      ·exact HR
      ·rw [← HEE.out, ← HR2.out]; exact HO
      ·exact HB
      ·exact HS
      ·(try rw [q2]); exact meas_k HLT.out
    ·have hk64 : k = 64 := by omega
     subst hk64
     have d1 := dec64 i (by have := HW.out.1; omega)
     rw [show ((64 : Nat) : Int) = 64 from rfl]
     clear hk hlt
     go_wp2
     refine ⟨⟨i, ?_, ?_, ?_, ?_, ?_, ?_, ?_, ?_, ?_⟩, ?_⟩
     ·exact Nat.le_of_lt HW.out.1
     ·(try rw [d1])
     ·exact HA
     ·exact HX
     ·exact HM
     ·exact HR
     ·rw [show 64 * i = 64 * i + (64 - 64) by omega]; exact HO
     ·exact HB
     ·exact HS
     ·(try rw [d1]); exact cut_meas i
end Go.Proofs.Ytkfjhndofbmhoaa
