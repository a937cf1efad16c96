/- What the proof of NonceMore is made of, part 10. -/
import Derived.Test.YtojlhmmmiebbmaaZNonceMore8
import Derived.Test.YtojlhmmmiebbmaaZNonceMore9
namespace Go.Proofs.Ytojlhmmmiebbmaa.PNonceLists
open Go.RowKit Go.Proofs.YtojlhmmmiebbmaaW.PrintWords Go.Proofs.YtojlhmmmiebbmaaW.PrintLast Go.Proofs.YtojlhmmmiebbmaaW.PrintMore Go.Proofs.Ytojlhmmmiebbmaa.Sha Go.Proofs.Ytojlhmmmiebbmaa.Arr
attribute [local go_sem] max2_int min2_int max_two min_two max_three min_three max_four min_four
attribute [local go_sem high] u8_w
set_option linter.unusedVariables false
set_option linter.unusedSimpArgs false
def okH (s : H8) : Prop := s.a < 4294967296 ∧ s.b < 4294967296 ∧ s.c < 4294967296 ∧ s.d < 4294967296 ∧ s.e < 4294967296 ∧ s.f < 4294967296 ∧ s.g < 4294967296 ∧ s.h < 4294967296
theorem ks_lt (i : Nat) : Ks.getD i 0 < 4294967296 := by
  by_cases h : i < 64
  · exact (by decide +kernel : ∀ i : Fin 64, Ks.getD i.1 0 < 4294967296) ⟨i, h⟩
  · rw [List.getD_eq_getElem?_getD, List.getElem?_eq_none (by show 64 ≤ i; omega)]; exact Nat.zero_lt_succ _
theorem not32 (x : Nat) (hx : x < 4294967296) : 4294967295 ^^^ x = 4294967295 - x := by
  apply Nat.eq_of_testBit_eq
  intro i
  have e1 : (4294967295 : Nat) = 2 ^ 32 - 1 := by decide
  have e2 : 4294967295 - x = 2 ^ 32 - (x + 1) := by show 4294967295 - x = 4294967296 - (x + 1); omega
  rw [e2, Nat.testBit_two_pow_sub_succ (show x < 2 ^ 32 from hx), Nat.testBit_xor, e1, Nat.testBit_two_pow_sub_one]
  by_cases h : i < 32
  · simp [h]
  · have hz : x.testBit i = false := Nat.testBit_lt_two_pow (Nat.lt_of_lt_of_le hx (show (4294967296 : Nat) ≤ 2 ^ i from Nat.pow_le_pow_right (n := 2) (by omega) (show 32 ≤ i by omega)))
    simp [h, hz]
theorem ch_int (x y z : Nat) (hx : x < 4294967296) (hy : y < 4294967296) (hz : z < 4294967296) : Go.bits .xor .u32 (Go.bits .and .u32 (x : Int) (y : Int)) (Go.bits .and .u32 (Go.bits .xor .u32 IntKind.u32.max (x : Int)) (z : Int)) = ((chf x y z : Nat) : Int) := by
  have e1 : Go.bits .xor .u32 IntKind.u32.max (x : Int) = ((4294967295 - x : Nat) : Int) := by
    rw [← not32 x hx]
    exact u32_xor_nat 4294967295 x (by omega) hx
  have h1 : x &&& y < 4294967296 := Nat.lt_of_le_of_lt Nat.and_le_left hx
  have h2 : (4294967295 - x) &&& z < 4294967296 := Nat.lt_of_le_of_lt Nat.and_le_right hz
  rw [e1, u32_and_nat x y hx hy, u32_and_nat _ z (by omega) hz, u32_xor_nat _ _ h1 h2]
  rfl
theorem maj_int (x y z : Nat) (hx : x < 4294967296) (hy : y < 4294967296) (hz : z < 4294967296) : Go.bits .xor .u32 (Go.bits .xor .u32 (Go.bits .and .u32 (x : Int) (y : Int)) (Go.bits .and .u32 (x : Int) (z : Int))) (Go.bits .and .u32 (y : Int) (z : Int)) = ((maj x y z : Nat) : Int) := by
  have h1 : x &&& y < 4294967296 := Nat.lt_of_le_of_lt Nat.and_le_left hx
  have h2 : x &&& z < 4294967296 := Nat.lt_of_le_of_lt Nat.and_le_left hx
  have h3 : y &&& z < 4294967296 := Nat.lt_of_le_of_lt Nat.and_le_left hy
  rw [u32_and_nat x y hx hy, u32_and_nat x z hx hz, u32_and_nat y z hy hz, u32_xor_nat _ _ h1 h2, u32_xor_nat _ _ (xor_lt _ _ h1 h2) h3]
  rfl
theorem step_ok (s : H8) (k w : Nat) (h : okH s) : okH (Sha.step s k w) := by
  obtain ⟨h1, h2, h3, h4, h5, h6, h7, h8⟩ := h
  exact ⟨add2_lt _ _, h1, h2, h3, add2_lt _ _, h5, h6, h7⟩
theorem rounds_ok (s : H8) (W : List Nat) (h : okH s) : ∀ n, okH (rounds s W n)
  | 0 => h
  | n + 1 => step_ok _ _ _ (rounds_ok s W h n)
/-- the first i numbers of xs with those of ys put to them -/
def mixl (xs ys : List Nat) (i : Nat) : List Nat := (List.range 8).map fun j => if j < i then add2 (xs.getD j 0) (ys.getD j 0) else xs.getD j 0
theorem mixl_length (xs ys : List Nat) (i : Nat) : (mixl xs ys i).length = 8 := by simp [mixl]
theorem mixl_get (xs ys : List Nat) (i : Nat) (h : i < 8) : (mixl xs ys i).getD i 0 = xs.getD i 0 := by
  rw [List.getD_eq_getElem?_getD, mixl, List.getElem?_map, List.getElem?_range h]
  simp
theorem mixl_set (xs ys : List Nat) (i : Nat) (h : i < 8) : (mixl xs ys i).set i (add2 (xs.getD i 0) (ys.getD i 0)) = mixl xs ys (i + 1) := by
  apply List.ext_getElem?
  intro j
  rw [List.getElem?_set, mixl_length]
  by_cases hj : j < 8
  · simp only [mixl, List.getElem?_map, List.getElem?_range hj, Option.map_some]
    by_cases e : i = j
    · subst e; simp [h]
    · rw [if_neg e]; congr 1
      by_cases h1 : j < i
      · rw [if_pos h1, if_pos (by omega)]
      · rw [if_neg h1, if_neg (by omega)]
  · rw [List.getElem?_eq_none (by rw [mixl_length]; omega), List.getElem?_eq_none (by rw [mixl_length]; omega)]
    split
    · exfalso; omega
    · rfl
theorem mixl_zero (xs ys : List Nat) (h : xs.length = 8) : mixl xs ys 0 = xs := by
  match xs, h with
  | [a, b, c, d, e, f, g, h], _ => simp [mixl, List.range_succ]
theorem mixl_all (s R : H8) : mixl s.list R.list 8 = (s.add R).list := by
  obtain ⟨a, b, c, d, e, f, g, h⟩ := s
  obtain ⟨a', b', c', d', e', f', g', h'⟩ := R
  simp [mixl, List.range_succ, H8.list, H8.add]
theorem mix_cell (s R : H8) (tl : List Value) (i : Nat) (h : i < 8) : (ints .u32 (cN (mixl s.list R.list i)) ++ tl)[i]? = some (Value.int .u32 (s.list.getD i 0 : Nat)) := by
  have hl : (cN (mixl s.list R.list i)).length = 8 := by rw [cN_length, mixl_length]
  rw [List.getElem?_append_left (by rw [ints_length, hl]; exact h), ints_get _ _ _ (by rw [hl]; exact h), rd_cN, mixl_get _ _ _ h]
theorem mix_set (s R : H8) (tl : List Value) (i : Nat) (h : i < 8) : (ints .u32 (cN (mixl s.list R.list i)) ++ tl).set i (Value.int .u32 (add2 (s.list.getD i 0) (R.list.getD i 0) : Nat)) = ints .u32 (cN (mixl s.list R.list (i + 1))) ++ tl := by
  have hl : (cN (mixl s.list R.list i)).length = 8 := by rw [cN_length, mixl_length]
  rw [List.set_append_left _ _ (by rw [ints_length, hl]; exact h), ints_set, cN_set, mixl_set _ _ _ h]
set_option maxHeartbeats 4000000 in
set_option maxRecDepth 100000 in
theorem take_calls (A0 : Option Addr) (k0 : Nat) (b : List Nat) (g : Nat) (s : H8) (tl : List Value) (w : World) (hr0 : Kd.C (Kd.int .u8) w A0 (cN b).length (cN b)) (hb : b.length = 64) (h8 : ∀ i, b.getD i 0 < 256)
    (hs : okH s) (hg : Row 82 w g (ints .u32 (cN s.list) ++ tl)) :
    Calls Try.prog 42 #[.pointer (some ⟨g, 0, none⟩), .slice A0 64 k0] w fun e w' => e = .returned (.tuple #[]) ∧ Row 82 w' g (ints .u32 (cN (comp s b).list) ++ tl) ∧ But w.heap.size g w w' := by
  have HR := Aside0.mk hr0
  have HL := Aside0.mk hb
  have H8 := Aside0.mk h8
  have HS := Aside0.mk hs
  have HG := Aside0.mk hg
  clear hr0 hb h8 hs
  have hG : g < w.heap.size := hg.size
  have c0 : w.cell? ⟨g, 0, none⟩ = some (.int .u32 (s.a : Nat)) := hg.cell 0 _ rfl
  have c1 : w.cell? ⟨g, 1, none⟩ = some (.int .u32 (s.b : Nat)) := hg.cell 1 _ rfl
  have c2 : w.cell? ⟨g, 2, none⟩ = some (.int .u32 (s.c : Nat)) := hg.cell 2 _ rfl
  have c3 : w.cell? ⟨g, 3, none⟩ = some (.int .u32 (s.d : Nat)) := hg.cell 3 _ rfl
  have c4 : w.cell? ⟨g, 4, none⟩ = some (.int .u32 (s.e : Nat)) := hg.cell 4 _ rfl
  have c5 : w.cell? ⟨g, 5, none⟩ = some (.int .u32 (s.f : Nat)) := hg.cell 5 _ rfl
  have c6 : w.cell? ⟨g, 6, none⟩ = some (.int .u32 (s.g : Nat)) := hg.cell 6 _ rfl
  have c7 : w.cell? ⟨g, 7, none⟩ = some (.int .u32 (s.h : Nat)) := hg.cell 7 _ rfl
  clear hg
  go_enter Try.func42, Try.ntmps42
  go_upto_region 1 with (fail)
  clear c0 c1 c2 c3 c4 c5 c6 c7
  rename_i K0 hK0
  have hA := Arr.new w .u32 80 (cN s.list)
  have hB : Below w.heap.size w (w.alloc (.cells (ints .u32 (cN s.list)).toArray 80)) := below_alloc (Below.refl _ _) _
  have hsz : (w.alloc (.cells (ints .u32 (cN s.list)).toArray 80)).heap.size = w.heap.size + 1 := by simp
  refine wp_at (w2 := w.alloc (.cells (ints .u32 (cN s.list)).toArray 80)) rfl ?_
  generalize w.alloc (.cells (ints .u32 (cN s.list)).toArray 80) = w1 at *
  have hR1 := Kd.C_below HR.out hB
  apply wp_region_lit
  refine Go.Great.wpList_readTo rfl (some 17) rfl (.slice A0 64 k0) rfl ?_
  refine wpList_callR rfl (some 18) rfl 53 #[.slice A0 64 k0] (by simp only [Act.put, List.setIfInBounds_toArray, List.set_cons_zero, List.set_cons_succ]; go_simp) _ (words_calls A0 k0 b w1 hR1 HL.out H8.out) ?_
  rintro e w2 ⟨rfl, hB2⟩
  refine ⟨_, rfl, ?_⟩
  refine wpList_callR rfl (some 19) rfl 54 #[] (by simp only [Act.put, List.setIfInBounds_toArray, List.set_cons_zero, List.set_cons_succ]; go_simp) _ (constants_calls w2) ?_
  rintro e w3 ⟨rfl, hB3⟩
  refine ⟨_, rfl, ?_⟩
  have hs2 := hB2.size
  have hs3 := hB3.size
  have hA3 := (hA.below hB2 (by omega)).below hB3 (by omega)
  have hB4 := (hB.trans (hB2.mono (by omega))).trans (hB3.mono (by omega))
  refine Go.Great.wpList_allocTo rfl (some 5) rfl _ (.cells (ints .u32 (cN z64)).toArray 92) rfl ?_
  refine Go.Great.wpList_allocTo rfl (some 6) rfl _ (.cells (ints .u32 (cN z64)).toArray 92) rfl ?_
  have hA5 := (Arr.new w3 .u32 92 (cN z64)).alloc (.cells (ints .u32 (cN z64)).toArray 92)
  have hA6 := Arr.new (w3.alloc (.cells (ints .u32 (cN z64)).toArray 92)) .u32 92 (cN z64)
  have hA4 := (hA3.alloc (.cells (ints .u32 (cN z64)).toArray 92)).alloc (.cells (ints .u32 (cN z64)).toArray 92)
  have hB5 := (hB4.alloc (by omega) (.cells (ints .u32 (cN z64)).toArray 92)).alloc (by simp; omega) (.cells (ints .u32 (cN z64)).toArray 92)
  rw [show (w3.alloc (.cells (ints .u32 (cN z64)).toArray 92)).heap.size = w3.heap.size + 1 from by simp] at *
  generalize (w3.alloc (.cells (ints .u32 (cN z64)).toArray 92)).alloc (.cells (ints .u32 (cN z64)).toArray 92) = w5 at *
  have hg5 : w.heap.size + 1 ≤ w3.heap.size := by omega
  generalize w3.heap.size = g5 at *
  have hW := wl_length b 48
  have hWl : ∀ i, (wl b 48).getD i 0 < 4294967296 := fun i => wl_lt b H8.out 48 i
  have hc : comp s b = s.add (rounds s (wl b 48) 64) := rfl
  generalize wl b 48 = W at *
  have hl1 : (ints .u32 (cN W)).length = 64 := by rw [ints_length, cN_length, hW]
  have hl2 : (ints .u32 (cN Ks)).length = 64 := rfl
  refine wpList_store_mid rfl 92 (.tmp 5) (.tmp 18) rfl g5 0 (ints .u32 (cN W)).toArray rfl rfl (hA5.there (by rw [List.size_toArray, hl1]; rfl)) (by rw [List.size_toArray, hl1]; rfl) (all_oneCell_toArray (ints_one _ _)) ?_
  rw [List.toList_toArray]
  have hA5' := hA5.setCells (ys := cN W) (by rw [cN_length, cN_length, hW]; rfl)
  have hA6' := Arr.otherCells (show g5 + 1 ≠ g5 by omega) (ints .u32 (cN W)) 0 w5 hA6
  have hA4' := Arr.otherCells (show w.heap.size ≠ g5 by omega) (ints .u32 (cN W)) 0 w5 hA4
  have hB6 := below_setCells (show w.heap.size ≤ g5 by omega) (ints .u32 (cN W)) 0 w5 hB5
  generalize w5.setCells g5 0 (ints .u32 (cN W)) = w6 at *
  have hKs : Ks.length = 64 := rfl
  have hKl : ∀ i, Ks.getD i 0 < 4294967296 := ks_lt
  generalize hKe : Ks = KS at *
  refine wpList_store_mid rfl 92 (.tmp 6) (.tmp 19) rfl (g5 + 1) 0 (ints .u32 (cN KS)).toArray rfl rfl (hA6'.there (by rw [List.size_toArray, hl2]; rfl)) (by rw [List.size_toArray, hl2]; rfl) (all_oneCell_toArray (ints_one _ _)) ?_
  rw [List.toList_toArray]
  have hA6 := hA6'.setCells (ys := cN KS) (by rw [cN_length, cN_length, hKs]; rfl)
  have hA5 := Arr.otherCells (show g5 ≠ g5 + 1 by omega) (ints .u32 (cN KS)) 0 w6 hA5'
  have hA4 := Arr.otherCells (show w.heap.size ≠ g5 + 1 by omega) (ints .u32 (cN KS)) 0 w6 hA4'
  have hB := below_setCells (show w.heap.size ≤ g5 + 1 by omega) (ints .u32 (cN KS)) 0 w6 hB6
  generalize w6.setCells (g5 + 1) 0 (ints .u32 (cN KS)) = w7 at *
  have HA6 := Aside0.mk hA6
  have HA5 := Aside0.mk hA5
  have HA4 := Aside0.mk hA4
  have HB := Aside0.mk hB
  have HW := Aside0.mk (And.intro hW hWl)
  have HKS := Aside0.mk (And.intro hKs (And.intro hKl hKe))
  have HC := Aside0.mk hc
  have HG5 := Aside0.mk hg5
  have HGG := Aside0.mk hG
  apply wpList_nil
  refine hK0 _ _ ?_
  clear hA6 hA5 hA4 hB hA hW hWl hKs hKl hKe hc hg5 hl1 hl2 hR1 hB2 hB3 hB4 hB5 hB6 hA3 hA5' hA6' hA4' hs2 hs3 hsz hG K0 hK0
  go_wp2
  go_loopw [20] (fun v wr => ∃ k : Nat, k ≤ 64 ∧ v = .int .i64 k ∧ Aside0 (Arr .u32 80 wr w.heap.size (cN (rounds s W k).list)) ∧ Aside0 (Arr .u32 92 wr g5 (cN W)) ∧ Aside0 (Arr .u32 92 wr (g5 + 1) (cN KS)) ∧ Aside0 (Below w.heap.size w wr))
    (fun v _ => 64 - (intOf v).toNat)
  case atStart => exact ⟨0, by omega, rfl, HA4, HA5, HA6, HB⟩
  case round =>
    clear HA4 HA5 HA6 HB
    obtain ⟨k, hk, rfl, HA4, HA5, HA6, HB⟩ := hrel
    by_cases hlt : k < 64
    · have ht : (k : Int) < 64 := by omega
      have hcW := HA5.out.cell k (by rw [cN_length, HW.out.1]; omega)
      have hcK := HA6.out.cell k (by rw [cN_length, HKS.out.1]; omega)
      rw [rd_cN] at hcW hcK
      have hwl := HW.out.2 k
      have hkl := HKS.out.2.1 k
      have hok := rounds_ok s W HS.out k
      have hst : rounds s W (k + 1) = Sha.step (rounds s W k) (Ks.getD k 0) (W.getD k 0) := rfl
      rw [HKS.out.2.2] at hst
      generalize rounds s W k = t at *
      obtain ⟨ta, tb, tc, td, te, tf, tg, th⟩ := t
      have c0 : wr.cell? ⟨w.heap.size, 0, none⟩ = some (.int .u32 (ta : Nat)) := HA4.out.cell 0 (show (0 : Nat) < 8 by omega)
      have c1 : wr.cell? ⟨w.heap.size, 1, none⟩ = some (.int .u32 (tb : Nat)) := HA4.out.cell 1 (show (1 : Nat) < 8 by omega)
      have c2 : wr.cell? ⟨w.heap.size, 2, none⟩ = some (.int .u32 (tc : Nat)) := HA4.out.cell 2 (show (2 : Nat) < 8 by omega)
      have c3 : wr.cell? ⟨w.heap.size, 3, none⟩ = some (.int .u32 (td : Nat)) := HA4.out.cell 3 (show (3 : Nat) < 8 by omega)
      have c4 : wr.cell? ⟨w.heap.size, 4, none⟩ = some (.int .u32 (te : Nat)) := HA4.out.cell 4 (show (4 : Nat) < 8 by omega)
      have c5 : wr.cell? ⟨w.heap.size, 5, none⟩ = some (.int .u32 (tf : Nat)) := HA4.out.cell 5 (show (5 : Nat) < 8 by omega)
      have c6 : wr.cell? ⟨w.heap.size, 6, none⟩ = some (.int .u32 (tg : Nat)) := HA4.out.cell 6 (show (6 : Nat) < 8 by omega)
      have c7 : wr.cell? ⟨w.heap.size, 7, none⟩ = some (.int .u32 (th : Nat)) := HA4.out.cell 7 (show (7 : Nat) < 8 by omega)
      generalize W.getD k 0 = wk at *
      generalize KS.getD k 0 = kk at *
      have HST := Aside0.mk hst
      obtain ⟨oa, ob, oc, od, oe, of, og, oh⟩ := hok
      have OA := Aside0.mk oa
      have OB := Aside0.mk ob
      have OC := Aside0.mk oc
      have OE := Aside0.mk oe
      have OF := Aside0.mk of
      have OG := Aside0.mk og
      have HWK := Aside0.mk (And.intro hwl hkl)
      clear hst oa ob oc od oe of og oh hwl hkl
      go_wp2
      have ech : Go.bits .xor .u32 (Go.bits .and .u32 (te : Int) (tf : Int)) (Go.bits .and .u32 (Go.bits .xor .u32 IntKind.u32.max (te : Int)) (tg : Int)) = ((chf te tf tg : Nat) : Int) := ch_int te tf tg OE.out OF.out OG.out
      have emj : Go.bits .xor .u32 (Go.bits .xor .u32 (Go.bits .and .u32 (ta : Int) (tb : Int)) (Go.bits .and .u32 (ta : Int) (tc : Int))) (Go.bits .and .u32 (tb : Int) (tc : Int)) = ((maj ta tb tc : Nat) : Int) := maj_int ta tb tc OA.out OB.out OC.out
      rw [ech, emj]
      clear ech emj
      refine start_ (n := 17) (S := fun w' => w'.cell? ⟨w.heap.size, 7, none⟩ = some (.int .u32 (th : Nat)) ∧ w'.cell? ⟨w.heap.size, 4, none⟩ = some (.int .u32 (te : Nat)) ∧ w'.cell? ⟨g5 + 1, k, none⟩ = some (.int .u32 (kk : Nat)) ∧ w'.cell? ⟨g5, k, none⟩ = some (.int .u32 (wk : Nat))) (ds := []) #[false, false, false, false, false, false, false, false, false, false, false, false, false, false, false, false, false] (by kernel_rfl) rfl rfl ⟨c7, c4, hcK, hcW⟩ (fun hHeld => ?_)
      refine pure_ (i := 0) (N := some 52) (v := ?_) (a' := ?_) #[true, false, false, false, false, false, false, false, false, false, false, false, false, false, false, false, false] rfl rfl (by kernel_rfl) (fun _ _ _ h => h) (Or.inl ⟨by rfl, ?_⟩) ?_ ?_
      rotate_left
      · intro w'
        go_simp
        with_reducible rfl
      rotate_left
      · simp only [Act.put, List.setIfInBounds_toArray, List.set_cons_zero, List.set_cons_succ, i64_w, i32_w]
        rfl
      refine pure_ (i := 2) (N := some 54) (v := ?_) (a' := ?_) #[true, false, true, false, false, false, false, false, false, false, false, false, false, false, false, false, false] rfl rfl (by kernel_rfl) (fun _ _ _ h => h) (Or.inl ⟨by rfl, ?_⟩) ?_ ?_
      rotate_left
      · intro w'
        go_simp
        with_reducible rfl
      rotate_left
      · simp only [Act.put, List.setIfInBounds_toArray, List.set_cons_zero, List.set_cons_succ, i64_w, i32_w]
        rfl
      refine pure_ (i := 6) (N := some 58) (v := ?_) (a' := ?_) #[true, false, true, false, false, false, true, false, false, false, false, false, false, false, false, false, false] rfl rfl (by kernel_rfl) (fun _ _ _ h => h) (Or.inl ⟨by rfl, ?_⟩) ?_ ?_
      rotate_left
      · intro w'
        go_simp
        with_reducible rfl
      rotate_left
      · simp only [Act.put, List.setIfInBounds_toArray, List.set_cons_zero, List.set_cons_succ, i64_w, i32_w]
        rfl
      refine pure_ (i := 8) (N := some 60) (v := ?_) (a' := ?_) #[true, false, true, false, false, false, true, false, true, false, false, false, false, false, false, false, false] rfl rfl (by kernel_rfl) (fun _ _ _ h => h) (Or.inl ⟨by rfl, ?_⟩) ?_ ?_
      rotate_left
      · intro w'
        go_simp
        with_reducible rfl
      rotate_left
      · simp only [Act.put, List.setIfInBounds_toArray, List.set_cons_zero, List.set_cons_succ, i64_w, i32_w]
        rfl
      refine pure_ (i := 9) (N := some 61) (v := ?_) (a' := ?_) #[true, false, true, false, false, false, true, false, true, true, false, false, false, false, false, false, false] rfl rfl (by kernel_rfl) (fun _ _ _ h => h) (Or.inl ⟨by rfl, ?_⟩) ?_ ?_
      rotate_left
      · intro w'
        go_simp
        with_reducible rfl
      rotate_left
      · simp only [Act.put, List.setIfInBounds_toArray, List.set_cons_zero, List.set_cons_succ, i64_w, i32_w]
        rfl
      refine pure_ (i := 12) (N := some 64) (v := ?_) (a' := ?_) #[true, false, true, false, false, false, true, false, true, true, false, false, true, false, false, false, false] rfl rfl (by kernel_rfl) (fun _ _ _ h => h) (Or.inl ⟨by rfl, ?_⟩) ?_ ?_
      rotate_left
      · intro w'
        go_simp
        with_reducible rfl
      rotate_left
      · simp only [Act.put, List.setIfInBounds_toArray, List.set_cons_zero, List.set_cons_succ, i64_w, i32_w]
        rfl
      refine pure_ (i := 13) (N := some 65) (v := ?_) (a' := ?_) #[true, false, true, false, false, false, true, false, true, true, false, false, true, true, false, false, false] rfl rfl (by kernel_rfl) (fun _ _ _ h => h) (Or.inl ⟨by rfl, ?_⟩) ?_ ?_
      rotate_left
      · intro w'
        go_simp
        with_reducible rfl
      rotate_left
      · simp only [Act.put, List.setIfInBounds_toArray, List.set_cons_zero, List.set_cons_succ, i64_w, i32_w]
        rfl
      refine take_ (i := 1) (N := some 53) (v := ?_) (a' := ?_) #[true, true, true, false, false, false, true, false, true, true, false, false, true, true, false, false, false] rfl rfl (by kernel_rfl) (fun _ _ _ h => h) (Or.inl ⟨by rfl, ?_⟩) hHeld ?_ ?_
      rotate_left
      · rintro w' ⟨s0, s1, s2, s3⟩
        go_simp
        with_reducible rfl
      rotate_left
      · simp only [Act.put, List.setIfInBounds_toArray, List.set_cons_zero, List.set_cons_succ, i64_w, i32_w]
        rfl
      refine take_ (i := 3) (N := some 55) (v := ?_) (a' := ?_) #[true, true, true, true, false, false, true, false, true, true, false, false, true, true, false, false, false] rfl rfl (by kernel_rfl) (fun _ _ _ h => h) (Or.inl ⟨by rfl, ?_⟩) hHeld ?_ ?_
      rotate_left
      · rintro w' ⟨s0, s1, s2, s3⟩
        go_simp
        with_reducible rfl
      rotate_left
      · simp only [Act.put, List.setIfInBounds_toArray, List.set_cons_zero, List.set_cons_succ, i64_w, i32_w]
        rfl
      refine take_ (i := 10) (N := some 62) (v := ?_) (a' := ?_) #[true, true, true, true, false, false, true, false, true, true, true, false, true, true, false, false, false] rfl rfl (by kernel_rfl) (fun _ _ _ h => h) (Or.inl ⟨by rfl, ?_⟩) hHeld ?_ ?_
      rotate_left
      · rintro w' ⟨s0, s1, s2, s3⟩
        go_simp
        with_reducible rfl
      rotate_left
      · simp only [Act.put, List.setIfInBounds_toArray, List.set_cons_zero, List.set_cons_succ, i64_w, i32_w]
        rfl
      refine take_ (i := 14) (N := some 66) (v := ?_) (a' := ?_) #[true, true, true, true, false, false, true, false, true, true, true, false, true, true, true, false, false] rfl rfl (by kernel_rfl) (fun _ _ _ h => h) (Or.inl ⟨by rfl, ?_⟩) hHeld ?_ ?_
      rotate_left
      · rintro w' ⟨s0, s1, s2, s3⟩
        go_simp
        with_reducible rfl
      rotate_left
      · simp only [Act.put, List.setIfInBounds_toArray, List.set_cons_zero, List.set_cons_succ, i64_w, i32_w]
        rfl
      refine one_ (i := 4) (N := some 56) #[true, true, true, true, true, false, true, false, true, true, true, false, true, true, true, false, false] rfl rfl (by kernel_rfl) (by decide) (fun K hK => ?_)
      refine goes_ Try.func55 (by kernel_rfl) rfl #[.int .u32 (te : Int), .int .i64 6, .int .i64 11, .int .i64 25] (by rfl) rfl rfl (by simp only [List.map_toArray, List.map_cons, List.map_nil]; rfl) ?_
      with_reducible refine (sha_turned.calls te 6 11 25 _ _ (tur1 te OE.out)).mono ?_
      rintro e w3 ⟨rfl, ⟨n1, rfl⟩⟩
      refine ⟨_, rfl, ?_⟩
      refine hK.out _ _ ⟨hHeld.1, hHeld.2.1, hHeld.2.2.1, hHeld.2.2.2⟩ (fun hHeld => ?_)
      clear hK K
      refine norm_ (a' := ?_) ?_ ?_
      rotate_left
      · show Act.put _ (some 56) _ = _
        simp only [Act.put, List.setIfInBounds_toArray, List.set_cons_zero, List.set_cons_succ, i64_w, i32_w]
        rfl
      refine pure_ (i := 5) (N := some 57) (v := ?_) (a' := ?_) #[true, true, true, true, true, true, true, false, true, true, true, false, true, true, true, false, false] rfl rfl (by kernel_rfl) (fun _ _ _ h => h) (Or.inl ⟨by rfl, ?_⟩) ?_ ?_
      rotate_left
      · intro w'
        go_simp
        with_reducible rfl
      rotate_left
      · simp only [Act.put, List.setIfInBounds_toArray, List.set_cons_zero, List.set_cons_succ, i64_w, i32_w]
        rfl
      refine pure_ (i := 7) (N := some 59) (v := ?_) (a' := ?_) #[true, true, true, true, true, true, true, true, true, true, true, false, true, true, true, false, false] rfl rfl (by kernel_rfl) (fun _ _ _ h => h) (Or.inl ⟨by rfl, ?_⟩) ?_ ?_
      rotate_left
      · intro w'
        go_simp
        with_reducible rfl
      rotate_left
      · simp only [Act.put, List.setIfInBounds_toArray, List.set_cons_zero, List.set_cons_succ, i64_w, i32_w]
        rfl
      refine pure_ (i := 11) (N := some 63) (v := ?_) (a' := ?_) #[true, true, true, true, true, true, true, true, true, true, true, true, true, true, true, false, false] rfl rfl (by kernel_rfl) (fun _ _ _ h => h) (Or.inl ⟨by rfl, ?_⟩) ?_ ?_
      rotate_left
      · intro w'
        go_simp
        with_reducible rfl
      rotate_left
      · simp only [Act.put, List.setIfInBounds_toArray, List.set_cons_zero, List.set_cons_succ, i64_w, i32_w]
        rfl
      refine pure_ (i := 15) (N := some 67) (v := ?_) (a' := ?_) #[true, true, true, true, true, true, true, true, true, true, true, true, true, true, true, true, false] rfl rfl (by kernel_rfl) (fun _ _ _ h => h) (Or.inl ⟨by rfl, ?_⟩) ?_ ?_
      rotate_left
      · intro w'
        go_simp
        with_reducible rfl
      rotate_left
      · simp only [Act.put, List.setIfInBounds_toArray, List.set_cons_zero, List.set_cons_succ, i64_w, i32_w]
        rfl
      refine pure_ (i := 16) (N := some 10) (v := ?_) (a' := ?_) #[true, true, true, true, true, true, true, true, true, true, true, true, true, true, true, true, true] rfl rfl (by kernel_rfl) (fun _ _ _ h => h) (Or.inl ⟨by rfl, ?_⟩) ?_ ?_
      rotate_left
      · intro w'
        go_simp
        with_reducible rfl
      rotate_left
      · simp only [Act.put, List.setIfInBounds_toArray, List.set_cons_zero, List.set_cons_succ, i64_w, i32_w]
        rfl
      refine done_ (by kernel_rfl) ?_
      clear hHeld
      go_upto_region 9 with (first | ((with_reducible refine gate_callee (f := 55) rfl ?_); refine goesL_ (some 70) rfl rfl Try.func55 (by kernel_rfl) rfl #[.int .u32 (ta : Int), .int .i64 2, .int .i64 13, .int .i64 22] rfl (by (try simp only [List.map_toArray, List.map_cons, List.map_nil]); first | done | rfl) ?_; (with_reducible refine (sha_turned.calls ta 2 13 22 _ _ (tur0 ta OA.out)).mono ?_); rintro e w' ⟨rfl, ⟨n2, rfl⟩⟩; refine ⟨_, rfl, ?_⟩))
      obtain ⟨t1, ht1⟩ : ∃ t, t = add2 (add2 (add2 (add2 th (bg1 te)) (chf te tf tg)) kk) wk := ⟨_, rfl⟩
      obtain ⟨t2, ht2⟩ : ∃ t, t = add2 (bg0 ta) (maj ta tb tc) := ⟨_, rfl⟩
      have et1 : ((((((th : Int) + (bg1 te : Nat)) % 4294967296 + (chf te tf tg : Nat)) % 4294967296 + (kk : Int)) % 4294967296 + (wk : Int)) % 4294967296) = (t1 : Int) := by rw [ht1]; unfold add2; omega
      have et2 : (((bg0 ta : Nat) : Int) + (maj ta tb tc : Nat)) % 4294967296 = (t2 : Int) := by rw [ht2]; unfold add2; omega
      rw [et1, et2]
      have hst : rounds s W (k + 1) = ⟨add2 t1 t2, ta, tb, tc, add2 td t1, te, tf, tg⟩ := by rw [HST.out, ht1, ht2]; rfl
      have HST2 := Aside0.mk hst
      have e1 : ((t1 : Int) + (t2 : Int)) % 4294967296 = ((add2 t1 t2 : Nat) : Int) := by unfold add2; omega
      have e2 : ((td : Int) + (t1 : Int)) % 4294967296 = ((add2 td t1 : Nat) : Int) := by unfold add2; omega
      have hfr : ∀ i, wr.frozen? ⟨w.heap.size, i, none⟩ = false := HA4.out.free
      clear hst ht1 ht2 et1 et2
      go_wp2
      have hg5 := HG5.out
      have hA : Arr .u32 80 (World.setCell (World.setCell (World.setCell (World.setCell (World.setCell (World.setCell (World.setCell (World.setCell (wr.drewN (1 + n1 + n2)) ⟨w.heap.size, 0, none⟩ (.int .u32 ((add2 t1 t2 : Nat) : Int))) ⟨w.heap.size, 1, none⟩ (.int .u32 (ta : Int))) ⟨w.heap.size, 2, none⟩ (.int .u32 (tb : Int))) ⟨w.heap.size, 3, none⟩ (.int .u32 (tc : Int))) ⟨w.heap.size, 4, none⟩ (.int .u32 ((add2 td t1 : Nat) : Int))) ⟨w.heap.size, 5, none⟩ (.int .u32 (te : Int))) ⟨w.heap.size, 6, none⟩ (.int .u32 (tf : Int))) ⟨w.heap.size, 7, none⟩ (.int .u32 (tg : Int))) w.heap.size (cN (rounds s W (k + 1)).list) := by
        rw [HST2.out]
        exact ((((((((HA4.out.drewN (1 + n1 + n2)).set 0 ((add2 t1 t2 : Nat) : Int)).set 1 (ta : Int)).set 2 (tb : Int)).set 3 (tc : Int)).set 4 ((add2 td t1 : Nat) : Int)).set 5 (te : Int)).set 6 (tf : Int)).set 7 (tg : Int)
      have hA5 : Arr .u32 92 (World.setCell (World.setCell (World.setCell (World.setCell (World.setCell (World.setCell (World.setCell (World.setCell (wr.drewN (1 + n1 + n2)) ⟨w.heap.size, 0, none⟩ (.int .u32 ((add2 t1 t2 : Nat) : Int))) ⟨w.heap.size, 1, none⟩ (.int .u32 (ta : Int))) ⟨w.heap.size, 2, none⟩ (.int .u32 (tb : Int))) ⟨w.heap.size, 3, none⟩ (.int .u32 (tc : Int))) ⟨w.heap.size, 4, none⟩ (.int .u32 ((add2 td t1 : Nat) : Int))) ⟨w.heap.size, 5, none⟩ (.int .u32 (te : Int))) ⟨w.heap.size, 6, none⟩ (.int .u32 (tf : Int))) ⟨w.heap.size, 7, none⟩ (.int .u32 (tg : Int))) g5 (cN W) := ((((((((HA5.out.drewN (1 + n1 + n2)).other (p := ⟨w.heap.size, 0, none⟩) (by show g5 ≠ w.heap.size; omega) (.int .u32 ((add2 t1 t2 : Nat) : Int))).other (p := ⟨w.heap.size, 1, none⟩) (by show g5 ≠ w.heap.size; omega) (.int .u32 (ta : Int))).other (p := ⟨w.heap.size, 2, none⟩) (by show g5 ≠ w.heap.size; omega) (.int .u32 (tb : Int))).other (p := ⟨w.heap.size, 3, none⟩) (by show g5 ≠ w.heap.size; omega) (.int .u32 (tc : Int))).other (p := ⟨w.heap.size, 4, none⟩) (by show g5 ≠ w.heap.size; omega) (.int .u32 ((add2 td t1 : Nat) : Int))).other (p := ⟨w.heap.size, 5, none⟩) (by show g5 ≠ w.heap.size; omega) (.int .u32 (te : Int))).other (p := ⟨w.heap.size, 6, none⟩) (by show g5 ≠ w.heap.size; omega) (.int .u32 (tf : Int))).other (p := ⟨w.heap.size, 7, none⟩) (by show g5 ≠ w.heap.size; omega) (.int .u32 (tg : Int))
      have hA6 : Arr .u32 92 (World.setCell (World.setCell (World.setCell (World.setCell (World.setCell (World.setCell (World.setCell (World.setCell (wr.drewN (1 + n1 + n2)) ⟨w.heap.size, 0, none⟩ (.int .u32 ((add2 t1 t2 : Nat) : Int))) ⟨w.heap.size, 1, none⟩ (.int .u32 (ta : Int))) ⟨w.heap.size, 2, none⟩ (.int .u32 (tb : Int))) ⟨w.heap.size, 3, none⟩ (.int .u32 (tc : Int))) ⟨w.heap.size, 4, none⟩ (.int .u32 ((add2 td t1 : Nat) : Int))) ⟨w.heap.size, 5, none⟩ (.int .u32 (te : Int))) ⟨w.heap.size, 6, none⟩ (.int .u32 (tf : Int))) ⟨w.heap.size, 7, none⟩ (.int .u32 (tg : Int))) (g5 + 1) (cN KS) := ((((((((HA6.out.drewN (1 + n1 + n2)).other (p := ⟨w.heap.size, 0, none⟩) (by show g5 + 1 ≠ w.heap.size; omega) (.int .u32 ((add2 t1 t2 : Nat) : Int))).other (p := ⟨w.heap.size, 1, none⟩) (by show g5 + 1 ≠ w.heap.size; omega) (.int .u32 (ta : Int))).other (p := ⟨w.heap.size, 2, none⟩) (by show g5 + 1 ≠ w.heap.size; omega) (.int .u32 (tb : Int))).other (p := ⟨w.heap.size, 3, none⟩) (by show g5 + 1 ≠ w.heap.size; omega) (.int .u32 (tc : Int))).other (p := ⟨w.heap.size, 4, none⟩) (by show g5 + 1 ≠ w.heap.size; omega) (.int .u32 ((add2 td t1 : Nat) : Int))).other (p := ⟨w.heap.size, 5, none⟩) (by show g5 + 1 ≠ w.heap.size; omega) (.int .u32 (te : Int))).other (p := ⟨w.heap.size, 6, none⟩) (by show g5 + 1 ≠ w.heap.size; omega) (.int .u32 (tf : Int))).other (p := ⟨w.heap.size, 7, none⟩) (by show g5 + 1 ≠ w.heap.size; omega) (.int .u32 (tg : Int))
      have hB : Below w.heap.size w (World.setCell (World.setCell (World.setCell (World.setCell (World.setCell (World.setCell (World.setCell (World.setCell (wr.drewN (1 + n1 + n2)) ⟨w.heap.size, 0, none⟩ (.int .u32 ((add2 t1 t2 : Nat) : Int))) ⟨w.heap.size, 1, none⟩ (.int .u32 (ta : Int))) ⟨w.heap.size, 2, none⟩ (.int .u32 (tb : Int))) ⟨w.heap.size, 3, none⟩ (.int .u32 (tc : Int))) ⟨w.heap.size, 4, none⟩ (.int .u32 ((add2 td t1 : Nat) : Int))) ⟨w.heap.size, 5, none⟩ (.int .u32 (te : Int))) ⟨w.heap.size, 6, none⟩ (.int .u32 (tf : Int))) ⟨w.heap.size, 7, none⟩ (.int .u32 (tg : Int))) := ((((((((HB.out.trans (c := wr.drewN (1 + n1 + n2)) ⟨rfl, rfl, rfl, Nat.le_refl _, fun _ _ => rfl⟩).setCell (p := ⟨w.heap.size, 0, none⟩) (Nat.le_refl _) (.int .u32 ((add2 t1 t2 : Nat) : Int))).setCell (p := ⟨w.heap.size, 1, none⟩) (Nat.le_refl _) (.int .u32 (ta : Int))).setCell (p := ⟨w.heap.size, 2, none⟩) (Nat.le_refl _) (.int .u32 (tb : Int))).setCell (p := ⟨w.heap.size, 3, none⟩) (Nat.le_refl _) (.int .u32 (tc : Int))).setCell (p := ⟨w.heap.size, 4, none⟩) (Nat.le_refl _) (.int .u32 ((add2 td t1 : Nat) : Int))).setCell (p := ⟨w.heap.size, 5, none⟩) (Nat.le_refl _) (.int .u32 (te : Int))).setCell (p := ⟨w.heap.size, 6, none⟩) (Nat.le_refl _) (.int .u32 (tf : Int))).setCell (p := ⟨w.heap.size, 7, none⟩) (Nat.le_refl _) (.int .u32 (tg : Int))
      generalize (World.setCell (World.setCell (World.setCell (World.setCell (World.setCell (World.setCell (World.setCell (World.setCell (wr.drewN (1 + n1 + n2)) ⟨w.heap.size, 0, none⟩ (.int .u32 ((add2 t1 t2 : Nat) : Int))) ⟨w.heap.size, 1, none⟩ (.int .u32 (ta : Int))) ⟨w.heap.size, 2, none⟩ (.int .u32 (tb : Int))) ⟨w.heap.size, 3, none⟩ (.int .u32 (tc : Int))) ⟨w.heap.size, 4, none⟩ (.int .u32 ((add2 td t1 : Nat) : Int))) ⟨w.heap.size, 5, none⟩ (.int .u32 (te : Int))) ⟨w.heap.size, 6, none⟩ (.int .u32 (tf : Int))) ⟨w.heap.size, 7, none⟩ (.int .u32 (tg : Int))) = w9 at *
      exact ⟨⟨k + 1, by omega, by rw [Int.natCast_add]; rfl, Aside0.mk hA, Aside0.mk hA5, Aside0.mk hA6, Aside0.mk hB⟩, by show 64 - ((k : Int) + 1).toNat < 64 - (k : Int).toNat; omega⟩
    · have hk64 : k = 64 := by omega
      subst hk64
      clear hlt
      rw [show ((64 : Nat) : Int) = 64 from rfl]
      have hcell := fun (i : Nat) (hi : i < 8) => HA4.out.cell i hi
      have hC := HC.out
      have hRk := rounds_ok s W HS.out 64
      generalize rounds s W 64 = R at *
      have HC2 := Aside0.mk hC
      have HRK := Aside0.mk hRk
      have hG0 := HGG.out
      have hRow := HG.out.below HB.out hG0
      rw [← mixl_zero s.list R.list rfl] at hRow
      have hbut : But w.heap.size g w wr := But.of HB.out
      have HRow := Aside0.mk hRow
      have HBut := Aside0.mk hbut
      clear hcell hC hRk hRow hbut hG0
      go_wp2
      go_loopw [94] (fun v wr => ∃ i : Nat, i ≤ 8 ∧ v = .int .i64 i ∧ Aside0 (Row 82 wr g (ints .u32 (cN (mixl s.list R.list i)) ++ tl)) ∧ Aside0 (Arr .u32 80 wr w.heap.size (cN R.list)) ∧ Aside0 (But w.heap.size g w wr))
        (fun v _ => 8 - (intOf v).toNat)
      case atStart => exact ⟨0, by omega, rfl, HRow, HA4, HBut⟩
      case round =>
        clear HRow HA4 HBut HA5 HA6 HB
        obtain ⟨i, hi, rfl, HRow, HA4, HBut⟩ := hrel
        by_cases hlt : i < 8
        · have ht : (i : Int) < 8 := by omega
          have hcx : _ = some (Value.int .u32 (s.list.getD i 0 : Nat)) := HRow.out.cell i _ (mix_cell s R tl i hlt)
          have hcy := HA4.out.cell i (show i < 8 from hlt)
          rw [rd_cN] at hcy
          have hfw := HRow.out.free i
          have hset := mix_set s R tl i hlt
          have hneq : w.heap.size ≠ g := by have := HGG.out; omega
          have HSET := Aside0.mk hset
          have HNE := Aside0.mk hneq
          generalize s.list.getD i 0 = x at *
          generalize R.list.getD i 0 = y at *
          clear hset hneq
          go_wp2
          refine start_ (n := 14) (S := fun w' => w'.cell? ⟨g, i, none⟩ = some (.int .u32 (x : Nat)) ∧ w'.cell? ⟨w.heap.size, i, none⟩ = some (.int .u32 (y : Nat))) (ds := [13]) #[false, false, false, false, false, false, false, false, false, false, false, false, false, false] (by kernel_rfl) rfl rfl ⟨hcx, hcy⟩ (fun hHeld => ?_)
          refine pure_ (i := 0) (N := some 97) (v := ?_) (a' := ?_) #[true, false, false, false, false, false, false, false, false, false, false, false, false, false] rfl rfl (by kernel_rfl) (fun _ _ _ h => h) (Or.inl ⟨by rfl, ?_⟩) ?_ ?_
          rotate_left
          · intro w'
            go_simp
            with_reducible rfl
          rotate_left
          · simp only [Act.put, List.setIfInBounds_toArray, List.set_cons_zero, List.set_cons_succ, i64_w, i32_w]
            rfl
          refine pure_ (i := 1) (N := some 98) (v := ?_) (a' := ?_) #[true, true, false, false, false, false, false, false, false, false, false, false, false, false] rfl rfl (by kernel_rfl) (fun _ _ _ h => h) (Or.inl ⟨by rfl, ?_⟩) ?_ ?_
          rotate_left
          · intro w'
            go_simp
            with_reducible rfl
          rotate_left
          · simp only [Act.put, List.setIfInBounds_toArray, List.set_cons_zero, List.set_cons_succ, i64_w, i32_w]
            rfl
          refine pure_ (i := 2) (N := some 99) (v := ?_) (a' := ?_) #[true, true, true, false, false, false, false, false, false, false, false, false, false, false] rfl rfl (by kernel_rfl) (fun _ _ _ h => h) (Or.inl ⟨by rfl, ?_⟩) ?_ ?_
          rotate_left
          · intro w'
            go_simp
            with_reducible rfl
          rotate_left
          · simp only [Act.put, List.setIfInBounds_toArray, List.set_cons_zero, List.set_cons_succ, i64_w, i32_w]
            rfl
          refine pure_ (i := 3) (N := some 100) (v := ?_) (a' := ?_) #[true, true, true, true, false, false, false, false, false, false, false, false, false, false] rfl rfl (by kernel_rfl) (fun _ _ _ h => h) (Or.inl ⟨by rfl, ?_⟩) ?_ ?_
          rotate_left
          · intro w'
            go_simp
            with_reducible rfl
          rotate_left
          · simp only [Act.put, List.setIfInBounds_toArray, List.set_cons_zero, List.set_cons_succ, i64_w, i32_w]
            rfl
          refine pure_ (i := 4) (N := some 101) (v := ?_) (a' := ?_) #[true, true, true, true, true, false, false, false, false, false, false, false, false, false] rfl rfl (by kernel_rfl) (fun _ _ _ h => h) (Or.inl ⟨by rfl, ?_⟩) ?_ ?_
          rotate_left
          · intro w'
            go_simp
            with_reducible rfl
          rotate_left
          · simp only [Act.put, List.setIfInBounds_toArray, List.set_cons_zero, List.set_cons_succ, i64_w, i32_w]
            rfl
          refine pure_ (i := 6) (N := some 103) (v := ?_) (a' := ?_) #[true, true, true, true, true, false, true, false, false, false, false, false, false, false] rfl rfl (by kernel_rfl) (fun _ _ _ h => h) (Or.inl ⟨by rfl, ?_⟩) ?_ ?_
          rotate_left
          · intro w'
            go_simp
            with_reducible rfl
          rotate_left
          · simp only [Act.put, List.setIfInBounds_toArray, List.set_cons_zero, List.set_cons_succ, i64_w, i32_w]
            rfl
          refine pure_ (i := 7) (N := some 104) (v := ?_) (a' := ?_) #[true, true, true, true, true, false, true, true, false, false, false, false, false, false] rfl rfl (by kernel_rfl) (fun _ _ _ h => h) (Or.inl ⟨by rfl, ?_⟩) ?_ ?_
          rotate_left
          · intro w'
            go_simp
            with_reducible rfl
          rotate_left
          · simp only [Act.put, List.setIfInBounds_toArray, List.set_cons_zero, List.set_cons_succ, i64_w, i32_w]
            rfl
          refine pure_ (i := 10) (N := some 107) (v := ?_) (a' := ?_) #[true, true, true, true, true, false, true, true, false, false, true, false, false, false] rfl rfl (by kernel_rfl) (fun _ _ _ h => h) (Or.inl ⟨by rfl, ?_⟩) ?_ ?_
          rotate_left
          · intro w'
            go_simp
            with_reducible rfl
          rotate_left
          · simp only [Act.put, List.setIfInBounds_toArray, List.set_cons_zero, List.set_cons_succ, i64_w, i32_w]
            rfl
          refine pure_ (i := 11) (N := some 108) (v := ?_) (a' := ?_) #[true, true, true, true, true, false, true, true, false, false, true, true, false, false] rfl rfl (by kernel_rfl) (fun _ _ _ h => h) (Or.inl ⟨by rfl, ?_⟩) ?_ ?_
          rotate_left
          · intro w'
            go_simp
            with_reducible rfl
          rotate_left
          · simp only [Act.put, List.setIfInBounds_toArray, List.set_cons_zero, List.set_cons_succ, i64_w, i32_w]
            rfl
          refine take_ (i := 5) (N := some 102) (v := ?_) (a' := ?_) #[true, true, true, true, true, true, true, true, false, false, true, true, false, false] rfl rfl (by kernel_rfl) (fun _ _ _ h => h) (Or.inl ⟨by rfl, ?_⟩) hHeld ?_ ?_
          rotate_left
          · rintro w' ⟨s0, s1⟩
            go_simp
            with_reducible rfl
          rotate_left
          · simp only [Act.put, List.setIfInBounds_toArray, List.set_cons_zero, List.set_cons_succ, i64_w, i32_w]
            rfl
          refine take_ (i := 8) (N := some 105) (v := ?_) (a' := ?_) #[true, true, true, true, true, true, true, true, true, false, true, true, false, false] rfl rfl (by kernel_rfl) (fun _ _ _ h => h) (Or.inl ⟨by rfl, ?_⟩) hHeld ?_ ?_
          rotate_left
          · rintro w' ⟨s0, s1⟩
            go_simp
            with_reducible rfl
          rotate_left
          · simp only [Act.put, List.setIfInBounds_toArray, List.set_cons_zero, List.set_cons_succ, i64_w, i32_w]
            rfl
          refine pure_ (i := 9) (N := some 106) (v := ?_) (a' := ?_) #[true, true, true, true, true, true, true, true, true, true, true, true, false, false] rfl rfl (by kernel_rfl) (fun _ _ _ h => h) (Or.inl ⟨by rfl, ?_⟩) ?_ ?_
          rotate_left
          · intro w'
            go_simp
            with_reducible rfl
          rotate_left
          · simp only [Act.put, List.setIfInBounds_toArray, List.set_cons_zero, List.set_cons_succ, i64_w, i32_w]
            rfl
          refine pure_ (i := 12) (N := some 109) (v := ?_) (a' := ?_) #[true, true, true, true, true, true, true, true, true, true, true, true, true, false] rfl rfl (by kernel_rfl) (fun _ _ _ h => h) (Or.inl ⟨by rfl, ?_⟩) ?_ ?_
          rotate_left
          · intro w'
            go_simp
            with_reducible rfl
          rotate_left
          · simp only [Act.put, List.setIfInBounds_toArray, List.set_cons_zero, List.set_cons_succ, i64_w, i32_w]
            rfl
          refine last_ (i := 13) (N := none) #[true, true, true, true, true, true, true, true, true, true, true, true, true, true] rfl rfl (by kernel_rfl) (by decide) (fun K hK => ?_)
          refine skip_ (w1 := ?_) (by rfl) rfl ?_ ?_
          rotate_left
          · go_simp
            rfl
          refine hK.out _ _ ?_
          clear hK K
          refine done_ (by kernel_rfl) ?_
          clear hHeld
          have hv : IntKind.u32.wrap ((x : Int) + (y : Int)) = ((add2 x y : Nat) : Int) := by rw [IntKind.wrap_u32]; unfold add2; omega
          rw [hv]
          have hRow := HRow.out.set i (.int .u32 ((add2 x y : Nat) : Int))
          rw [HSET.out] at hRow
          have hA4 := HA4.out.other (p := ⟨g, i, none⟩) HNE.out (.int .u32 ((add2 x y : Nat) : Int))
          have hbut := HBut.out.self i (.int .u32 ((add2 x y : Nat) : Int))
          have HRow' := Aside0.mk hRow.drew
          have HA4' := Aside0.mk hA4.drew
          have HBut' := Aside0.mk hbut.drew
          clear hv hcx hcy hfw hRow hA4 hbut HRow HA4 HBut
          generalize World.drew (World.setCell wr ⟨g, i, none⟩ (.int .u32 ((add2 x y : Nat) : Int))) = w9 at *
          go_wp2
          exact ⟨⟨i + 1, by omega, by rw [Int.natCast_add]; rfl, HRow', HA4', HBut'⟩, by show 8 - ((i : Int) + 1).toNat < 8 - (i : Int).toNat; omega⟩
        · have hi8 : i = 8 := by omega
          subst hi8
          clear hlt
          go_wp2
          refine bodyPost_end (results_none rfl _ _ _) rfl ⟨rfl, ?_, HBut.out⟩
          rw [HC2.out, ← mixl_all]
          exact HRow.out
end Go.Proofs.Ytojlhmmmiebbmaa.PNonceLists
namespace Go.Proofs.Ytojlhmmmiebbmaa.PNonceLists
open Go.RowKit Go.Proofs.YtojlhmmmiebbmaaW.PrintWords Go.Proofs.YtojlhmmmiebbmaaW.PrintLast Go.Proofs.YtojlhmmmiebbmaaW.PrintMore Go.Proofs.Ytojlhmmmiebbmaa.Sha Go.Proofs.Ytojlhmmmiebbmaa.Arr
attribute [local go_sem] max2_int min2_int max_two min_two max_three min_three max_four min_four
attribute [local go_sem high] u8_w
set_option linter.unusedVariables false
set_option linter.unusedSimpArgs false
/-- bytes: numbers below 256 -/
def Bs (l : List Nat) : Prop := ∀ i, l.getD i 0 < 256
/-- block g holds a Hash: the state s, the rest (its row is v), n bytes taken -/
structure HashAt (w : World) (g : Nat) (s : H8) (rest : List Nat) (n : Nat) (v : Value) : Prop where
  row : Row 82 w g (ints .u32 (cN s.list) ++ [v, .int .i64 (n : Int)])
  own : w.ownsRow 0 5 1 v (cN rest).length (nums .u8 (cN rest))
  ok : okH s
  bytes : Bs rest
/-- all is as it was but for block g and the block of the row -/
structure KB (w w' : World) (g : Nat) (row : Option Nat) : Prop where
  os : w'.os = w.os
  tape : w'.tape = w.tape
  output : w'.output = w.output
  keep : KeepBut w w' g row
section
variable {w w1 w2 : World} {g n : Nat} {s : H8} {rest : List Nat} {v : Value} {row row1 : Option Nat}
theorem KB.refl (w : World) (g : Nat) (row : Option Nat) : KB w w g row := ⟨rfl, rfl, rfl, KeepBut.refl _ _ _⟩
theorem KB.trans (h : KB w w1 g row) (k : KB w1 w2 g row1) (hr : row1 = row ∨ ∃ b, row1 = some b ∧ w.heap.size ≤ b) : KB w w2 g row := ⟨k.os.trans h.os, k.tape.trans h.tape, k.output.trans h.output, h.keep.trans k.keep hr⟩
theorem KB.but (h : But w.heap.size g w w1) : KB w w1 g row := ⟨h.os, h.tape, h.output, h.size, fun i hi hg _ => h.block i hi hg⟩
theorem KB.grown (h : w.grownBy w1 row) : KB w w1 g row := ⟨h.os, h.tape, h.output, KeepBut.of_grown h g⟩
theorem KB.of (h : Below w.heap.size w w1) : KB w w1 g row := ⟨h.os, h.tape, h.output, KeepBut.of_below h g row⟩
theorem KB.set (h : KB w w1 g row) (j : Nat) (u : Value) : KB w (w1.setCell ⟨g, j, none⟩ u) g row := ⟨h.os, h.tape, h.output, h.keep.set_ j u⟩
theorem KB.drew (h : KB w w1 g row) : KB w w1.drew g row := ⟨h.os, h.tape, h.output, h.keep⟩
theorem KB.drewN (h : KB w w1 g row) (m : Nat) : KB w (w1.drewN m) g row := ⟨h.os, h.tape, h.output, h.keep⟩
theorem HashAt.ne (h : HashAt w g s rest n v) : some g ≠ v.ownBlock := own_ne h.own h.row (by decide)
theorem HashAt.c8 (h : HashAt w g s rest n v) : w.cell? ⟨g, 8, none⟩ = some v := h.row.cell 8 _ rfl
theorem HashAt.c9 (h : HashAt w g s rest n v) : w.cell? ⟨g, 9, none⟩ = some (.int .i64 (n : Int)) := h.row.cell 9 _ rfl
theorem HashAt.free (h : HashAt w g s rest n v) (i : Nat) : w.frozen? ⟨g, i, none⟩ = false := h.row.free i
theorem HashAt.size (h : HashAt w g s rest n v) : g < w.heap.size := h.row.size
/-- the Hash stands where the two blocks stand -/
theorem HashAt.kept (h : HashAt w g s rest n v) (hg : w1.heap[g]? = w.heap[g]?) (hv : ∀ k, v.ownBlock = some k → w1.heap[k]? = w.heap[k]?) : HashAt w1 g s rest n v :=
  ⟨h.row.block hg, own_move h.own hv, h.ok, h.bytes⟩
theorem HashAt.below (h : HashAt w g s rest n v) (hb : Below w.heap.size w w1) : HashAt w1 g s rest n v :=
  h.kept (hb.block g h.size) (fun k hk => hb.block k (own_lt h.own k hk))
/-- the rest as a slice -/
theorem HashAt.slice (h : HashAt w g s rest n v) : ∃ A c, v = .slice A (cN rest).length c ∧ (cN rest).length ≤ c ∧ Kd.C (Kd.int .u8) w A (cN rest).length (cN rest) := by
  obtain ⟨A, c, e, hle, hr⟩ := own_reads_of_le (enc := Value.int .u8) (d := (0 : Int)) h.own
  exact ⟨A, c, e, hle, Kd.C_of_reads hr⟩
end
theorem IV_ok : okH IV := by unfold okH; decide +kernel
set_option maxHeartbeats 4000000 in
set_option maxRecDepth 100000 in
theorem new_calls (w : World) :
    Calls Try.prog 24 #[] w fun e w' => ∃ g, e = .returned (.pointer (some ⟨g, 0, none⟩)) ∧ w.heap.size ≤ g ∧ HashAt w' g IV [] 0 (.slice none 0 0) ∧ Below w.heap.size w w' := by
  go_enter Try.func24, Try.ntmps24
  go_wp2
  refine bodyPost_ret (results_tmp rfl _ _ _) rfl ⟨w.heap.size, rfl, Nat.le_refl _, ?_, below_alloc (Below.refl _ _) _⟩
  exact ⟨heap_alloc_new w _, own_nil _ _ _ _, IV_ok, fun i => by show (([] : List Nat).getD i 0) < 256; simp⟩
end Go.Proofs.Ytojlhmmmiebbmaa.PNonceLists
