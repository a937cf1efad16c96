/- sha.Sum. -/
import Derived.Test.YtinjhmmbndonhaaHk
namespace Go.Proofs.Ytinjhmmbndonhaa.PShaSums
open Go.RowKit Go.Proofs.YtinjhmmbndonhaaW.PrintWords Go.Proofs.YtinjhmmbndonhaaW.PrintLast Go.Proofs.YtinjhmmbndonhaaW.PrintMore Go.Proofs.Ytinjhmmbndonhaa.Sha Go.Proofs.Ytinjhmmbndonhaa.Arr
attribute [local go_sem] max2_int min2_int max_two min_two max_three min_three max_four min_four
attribute [local go_sem high] u8_w
set_option linter.unusedVariables false
set_option linter.unusedSimpArgs false
theorem run_len : ∀ (n : Nat) (s : H8) (b : List Nat), b.length ≤ n → (run s b).2.length = b.length % 64 := by
  intro n
  induction n with
  | zero => intro s b h; rw [run_end s b (by omega)]; show b.length = _; omega
  | succ n ih =>
    intro s b h
    by_cases hb : 64 ≤ b.length
    · rw [run_step s b hb, ih _ _ (by rw [List.length_drop]; omega), List.length_drop]; omega
    · rw [run_end s b hb]; show b.length = _; omega
theorem lens_8 (n : Nat) : lens n 8 = [8 * n / 72057594037927936 % 256, 8 * n / 281474976710656 % 256, 8 * n / 1099511627776 % 256, 8 * n / 4294967296 % 256, 8 * n / 16777216 % 256, 8 * n / 65536 % 256, 8 * n / 256 % 256, 8 * n % 256] := by
  simp [lens, lenb, List.range_succ]
theorem padl_eq (r n : Nat) (h : r % 64 = n % 64) : padl r n = pad n := by
  unfold padl pad pad1
  rw [lens_8, h]
/-- what Sum of a Hash answers that has taken xs -/
theorem sum_eq (xs : List Nat) : (run (run IV xs).1 ((run IV xs).2 ++ padl (run IV xs).2.length xs.length)).1.bytes = sum xs := by
  unfold sum
  rw [run_append xs.length IV xs _ (Nat.le_refl _), padl_eq _ _ (by rw [run_len xs.length IV xs (Nat.le_refl _)]; omega)]
set_option maxHeartbeats 4000000 in
set_option maxRecDepth 100000 in
theorem sum_calls (A0 : Option Addr) (k0 : Nat) (xs : List Nat) (w : World) (hr : Kd.C (Kd.int .u8) w A0 (cN xs).length (cN xs)) (hx : Bs xs) (hl : xs.length ≤ 100000000000) :
    Calls Try.prog 10 #[.slice A0 (cN xs).length k0] w fun e w' => e = .returned (.agg (ints .u8 (cN (sum xs))).toArray) ∧ Below w.heap.size w w' := by
  obtain ⟨m, hm⟩ : ∃ m, m = (cN xs).length := ⟨_, rfl⟩
  have HR := Aside0.mk hr
  have HX := Aside0.mk (And.intro hx (And.intro hl hm))
  rw [← hm]
  clear hr hx hl hm
  go_enter Try.func10, Try.ntmps10
  go_upto_region 1 with (fail)
  refine wp_at (w2 := (w.alloc (.cells (ints .u8 (cN z32)).toArray 25))) rfl ?_
  have hA0 : Arr .u8 25 (w.alloc (.cells (ints .u8 (cN z32)).toArray 25)) w.heap.size (cN z32) := Arr.new w .u8 _ _
  have hB0 : Below w.heap.size w (w.alloc (.cells (ints .u8 (cN z32)).toArray 25)) := below_alloc (Below.refl _ _) _
  have hs0 : (w.alloc (.cells (ints .u8 (cN z32)).toArray 25)).heap.size = w.heap.size + 1 := by simp
  generalize w.alloc (.cells (ints .u8 (cN z32)).toArray 25) = w1 at *
  have HA0 := Aside0.mk hA0
  have HB0 := Aside0.mk hB0
  have HS0 := Aside0.mk hs0
  clear hA0 hB0 hs0
  go_upto_region 2 with (first | ((with_reducible refine gate_callee (f := 12) rfl ?_); refine goesL_ (some 5) rfl rfl Try.func12 (by kernel_rfl) rfl #[] rfl (by (try simp only [List.map_toArray, List.map_cons, List.map_nil]); first | done | rfl) ?_; (with_reducible refine (new_calls w1).mono ?_); rintro e w2 ⟨g2, rfl, hg2, hH2, hB2⟩; refine ⟨_, rfl, ?_⟩))
  have hr2 := Kd.C_below (Kd.C_below HR.out HB0.out) hB2
  have hf2 : ∀ ad, A0 = some ad → 0 < (cN xs).length → ad.block ≠ g2 := by
    intro ad e hp he
    obtain ⟨ad', e', hc⟩ := (reads_of .u8 HR.out).2.2 hp
    rw [e] at e'
    injection e' with e'
    subst e'
    have h1 := hc 0 hp
    have h2 := World.block_lt_of_cell? w _ h1
    have h3 : (ad.add 0).block = ad.block := by unfold Addr.add; split <;> rfl
    rw [h3, he] at h2
    have := HS0.out
    omega
  have hWr := write_calls A0 k0 xs w2 g2 0 IV [] _ hH2 hr2 HX.out.1 hf2 (by have := HX.out.2.1; show 0 + _ ≤ _; omega) (by have := HX.out.2.1; omega)
  rw [← HX.out.2.2, List.nil_append, Nat.zero_add] at hWr
  have HW := Aside0.mk hWr
  have H2 := Aside0.mk hH2
  have HG2 := Aside0.mk hg2
  have HB2 := Aside0.mk hB2
  clear hr2 hf2 hH2 hg2 hB2 hWr
  rename_i K0 hK0
  apply wp_region_lit
  refine Go.Great.wpList_readTo rfl (some 6) rfl (.func (.func 15) #[] #[]) rfl ?_
  refine Go.Great.wpList_readTo rfl (some 7) rfl (.pointer (some ⟨g2, 0, none⟩)) rfl ?_
  refine Go.Great.wpList_readTo rfl (some 8) rfl (.slice A0 m k0) rfl ?_
  refine wpList_callR rfl (some 9) rfl 15 #[.pointer (some ⟨g2, 0, none⟩), .slice A0 m k0] (by simp only [Act.put, List.setIfInBounds_toArray, List.set_cons_zero, List.set_cons_succ]; go_simp) _ HW.out ?_
  rintro e w3 ⟨rfl, v3, hH3, hk3, hat3⟩
  refine ⟨_, rfl, ?_⟩
  have hBT : Below (w.heap.size + 1) w1 w3 := by
    have e := HS0.out
    have h1 := HB2.out.size
    refine (HB2.out.mono (by omega)).trans (hk3.below (by have := HG2.out; omega) ?_ (by omega))
    intro k hk
    cases hk
  have HA3 := Aside0.mk (HA0.out.below hBT (by omega))
  have HB3 := Aside0.mk (HB0.out.trans (hBT.mono (by omega)))
  have hsz := (HA0.out.below hBT (by omega)).size
  have hlr := run_len xs.length IV xs (Nat.le_refl _)
  have hSr := hsum_calls w3 g2 xs.length (run IV xs).1 (run IV xs).2 v3 hH3 (by omega) (by have := HX.out.2.1; omega)
  rw [sum_eq] at hSr
  have HS := Aside0.mk hSr
  clear hBT hH3 hk3 hat3 hlr HW hSr
  apply wpList_nil
  refine hK0 _ _ ?_
  clear hK0 K0
  go_upto_region 3 with (fail)
  rename_i K1 hK1
  apply wp_region_lit
  refine Go.Great.wpList_readTo rfl (some 10) rfl (.pointer (some ⟨g2, 0, none⟩)) rfl ?_
  refine wpList_callR rfl (some 11) rfl 13 #[.pointer (some ⟨g2, 0, none⟩)] (by simp only [Act.put, List.setIfInBounds_toArray, List.set_cons_zero, List.set_cons_succ]; go_simp) _ HS.out ?_
  rintro e w4 ⟨rfl, hB4⟩
  refine ⟨_, rfl, ?_⟩
  have hA4 := HA3.out.below hB4 hsz
  have hB5 := HB3.out.trans (hB4.mono (Nat.le_of_lt hsz))
  have hW : (sum xs).length = 32 := rfl
  generalize hSe : sum xs = W at *
  have HSE := Aside0.mk hSe
  clear hSe
  have hl1 : (ints .u8 (cN W)).length = 32 := by rw [ints_length, cN_length, hW]
  refine wpList_store_mid rfl 25 (.tmp 2) (.tmp 11) rfl _ 0 (ints .u8 (cN W)).toArray rfl rfl (hA4.there (by rw [List.size_toArray, hl1]; rfl)) (by rw [List.size_toArray, hl1]; rfl) (all_oneCell_toArray (ints_one _ _)) ?_
  have hA2 := hA4.setCells (ys := cN W) (by rw [cN_length, cN_length, hW]; rfl)
  have hB6 := below_setCells (Nat.le_refl w.heap.size) (ints .u8 (cN W)) 0 w4 hB5
  apply wpList_nil
  refine hK1 _ _ ?_
  rw [List.toList_toArray]
  generalize w4.setCells w.heap.size 0 (ints .u8 (cN W)) = w9 at *
  go_wp2
  refine bodyPost_ret (v := .agg (ints .u8 (cN W)).toArray) ?_ rfl ⟨by rw [HSE.out], hB6⟩
  exact results_cell_row rfl _ _ w.heap.size 25 (ints .u8 (cN W)).toArray (0, 0) _ rfl hA2 rfl rfl (by rw [List.size_toArray, hl1]; rfl)
end Go.Proofs.Ytinjhmmbndonhaa.PShaSums
