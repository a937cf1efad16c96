/- The reference's block: a key's block, each byte exclusive-ored with one. -/
import Derived.Test.YtinjhmmbndonhaaMe
import Derived.Test.YtinjhmmbndonhaaRu
namespace Go.Proofs.Ytinjhmmbndonhaa.PShaSums
open Go.RowKit Go.Proofs.YtinjhmmbndonhaaW.PrintWords Go.Proofs.YtinjhmmbndonhaaW.PrintLast Go.Proofs.YtinjhmmbndonhaaW.PrintMore Go.Proofs.Ytinjhmmbndonhaa.Sha Go.Proofs.Ytinjhmmbndonhaa.Arr
attribute [local go_sem] max2_int min2_int max_two min_two max_three min_three max_four min_four
attribute [local go_sem high] u8_w
set_option linter.unusedVariables false
set_option linter.unusedSimpArgs false
theorem kb_get (xs : List Nat) (i : Nat) : (kb xs).getD i 0 = if i < (kk0 xs).length then (kk0 xs).getD i 0 else 0 := by
  unfold kb
  split
  · rename_i h
    rw [List.getD_eq_getElem?_getD, List.getElem?_append_left h, ← List.getD_eq_getElem?_getD]
  · rename_i h
    rw [List.getD_eq_getElem?_getD, List.getElem?_append_right (by omega), List.getElem?_replicate]
    split <;> rfl
theorem kx_take (xs : List Nat) (x i : Nat) (hi : i < 64) : (kx xs x).take i ++ [(kb xs).getD i 0 ^^^ x] = (kx xs x).take (i + 1) := by
  have h := kb_length xs
  rw [List.take_add_one]
  congr 1
  unfold kx
  rw [List.getElem?_map, List.getD_eq_getElem?_getD, List.getElem?_eq_getElem (by omega)]
  rfl
theorem kk0_bs (xs : List Nat) (h : Bs xs) : Bs (kk0 xs) := by
  unfold kk0
  split
  · exact sum_bs xs
  · exact h
theorem own_nil {w : World} (base : Nat) {e : TypeId} {k : IntKind} : w.ownsRow base e 1 (.slice none 0 0) (cN ([] : List Nat)).length (nums k (cN ([] : List Nat))) := ⟨rfl, .inl ⟨rfl, rfl⟩⟩
theorem own_lower {w : World} {b b' n : Nat} {e : TypeId} {v : Value} {xs : List Value} (h : w.ownsRow b e 1 v n xs) (hb : b' ≤ b) : w.ownsRow b' e 1 v n xs := by
  refine ⟨h.1, ?_⟩
  rcases h.2 with h | ⟨g, cap, cur, e1, hg, r⟩
  · exact .inl h
  · exact .inr ⟨g, cap, cur, e1, Nat.le_trans hb hg, r⟩
theorem inc64 {t : Nat} (h : t < 64) : wrap64 ((t : Int) + 1) = (t : Int) + 1 := by unfold wrap64; omega
set_option maxHeartbeats 8000000 in
set_option maxRecDepth 100000 in
theorem block_calls (A0 : Option Addr) (k0 : Nat) (xs : List Nat) (x : Nat) (w : World) (hr0 : Kd.C (Kd.int .u8) w A0 (cN xs).length (cN xs)) (hx : Bs xs) (hxb : x < 256) (hl : xs.length ≤ 1000000000) :
    Calls Try.prog 26 #[.slice A0 (cN xs).length k0, .int .u8 (x : Int)] w fun e w' => ∃ g c, e = .returned (.slice (some ⟨g, 0, none⟩) 64 c) ∧ w'.ownsRow w.heap.size 5 1 (.slice (some ⟨g, 0, none⟩) 64 c) 64 (nums .u8 (cN (kx xs x))) ∧ Below w.heap.size w w' := by
  obtain ⟨m0, hm0⟩ : ∃ m, m = (cN xs).length := ⟨_, rfl⟩
  have HR0 := Aside0.mk hr0
  have HX := Aside0.mk hx
  have HXB := Aside0.mk hxb
  have HL := Aside0.mk hl
  have HM : Aside0 (m0 = xs.length ∧ m0 = (cN xs).length) := Aside0.mk ⟨by rw [hm0, cN_length], hm0⟩
  rw [← hm0]
  clear hr0 hx hxb hl
  by_cases hbig : m0 ≤ 64
  · have p0 : (m0 : Int) ≤ 64 := by omega
    have HK : Aside0 (kk0 xs = xs) := Aside0.mk (by unfold kk0; rw [if_neg (by have := HM.out.1; omega)])
    have HKM : Aside0 (m0 = (kk0 xs).length) := Aside0.mk (by rw [HK.out]; exact HM.out.1)
    have HKC : Aside0 (∀ W, Below w.heap.size w W → Kd.C (Kd.int .u8) W A0 (cN (kk0 xs)).length (cN (kk0 xs))) := Aside0.mk (fun W hb => by rw [HK.out]; exact Kd.C_below HR0.out hb)
    have HB0 : Aside0 (Below w.heap.size w w) := Aside0.mk (Below.refl _ _)
    clear hbig hm0
    go_enter Try.func26, Try.ntmps26
    go_wp2
    go_loopw [6, 7] (fun vo v wr => ∃ i : Nat, i ≤ 64 ∧ v = .int .i64 (i : Int) ∧ Aside0 (wr.ownsRow w.heap.size 5 1 vo (cN ((kx xs x).take i)).length (nums .u8 (cN ((kx xs x).take i)))) ∧ Aside0 (Below w.heap.size w wr))
      (fun _ v _ => 64 - (intOf v).toNat)
    case atStart => exact ⟨0, by omega, rfl, Aside0.mk (own_nil _), HB0⟩
    case round =>
      obtain ⟨i, hi, rfl, HO, HP⟩ := hrel
      obtain ⟨A6, k6, rfl⟩ := own_slice HO.out
      obtain ⟨m6, hm6⟩ : ∃ m, m = (cN ((kx xs x).take i)).length := ⟨_, rfl⟩
      have hm6' : m6 = i := by rw [hm6, cN_length, List.length_take, kx_length]; omega
      rw [← hm6]
      have HO6 : Aside0 (wr.ownsRow w.heap.size 5 1 (.slice A6 m6 k6) (cN ((kx xs x).take i)).length (nums .u8 (cN ((kx xs x).take i)))) := Aside0.mk (by rw [hm6]; exact HO.out)
      have hl6 : ((cN ((kx xs x).take i)).length + 1) * 1 ≤ 140737488355328 := by omega
      clear HO
      by_cases hlt : i < 64
      · have t1 : (i : Int) < 64 := by omega
        have HLT := Aside0.mk hlt
        have HPW : Aside0 (Below w.heap.size w wr) := Aside0.mk (HP.out)
        have hby := kb_bs xs HX.out i
        have hget := kb_get xs i
        have hkx := kx_take xs x i hlt
        obtain ⟨y, hY⟩ : ∃ y, (kb xs).getD i 0 = y := ⟨_, rfl⟩
        rw [hY] at hby hget hkx
        clear hY
        obtain ⟨z, hz⟩ : ∃ z, z = y ^^^ x := ⟨_, rfl⟩
        rw [← hz] at hkx
        have f1 : Go.bits .xor .u8 (y : Int) (x : Int) = (z : Int) := by rw [hz]; exact u8_xor_nat y x hby HXB.out
        have HKX := Aside0.mk hkx
        by_cases hin : i < m0
        · have t2 : (i : Int) < (m0 : Int) := by omega
          rw [if_pos (by rw [← HKM.out]; exact hin)] at hget
          obtain ⟨ad, eA, hc⟩ := kC_cell (HKC.out wr HPW.out) i (by rw [← HKM.out]; exact hin)
          cases eA
          rw [← hget] at hc
          have HO7 := HO6
          clear hm6 hm6' hby hget hkx hz hin hlt hi
          go_wp2_with (first
            | ((with_reducible refine gate_dst (N := 32) rfl ?_); refine print_append_num (w0 := wr) w.heap.size rfl (.tmp 27) (.tmp 31) 22 5 .u8 1 rfl rfl rfl (by omega) (.slice A6 m6 k6) (cN ((kx xs x).take i)) (z : Int) rfl rfl HO6.out (Below.refl _ _) HP.out.size hl6 ?_; intro v8 w8 ho hb hg hat; clear hg hat; have HO8 := Aside0.mk ho; have HP8 := Aside0.mk hb; clear ho hb))
          have ho := HO8.out
          rw [show cN ((kx xs x).take i) ++ [(z : Int)] = cN ((kx xs x).take (i + 1)) by rw [← HKX.out, cN_append]; rfl] at ho
          have v9 := inc64 HLT.out
          try rw [v9]
          refine ⟨⟨i + 1, HLT.out, by rw [Int.natCast_add]; rfl, Aside0.mk ho, Aside0.mk (HP.out.trans (HP8.out.mono (Nat.le_refl _)))⟩, meas64' HLT.out⟩
        · have t2 : ¬ (i : Int) < (m0 : Int) := by omega
          rw [if_neg (by rw [← HKM.out]; exact hin)] at hget
          subst hget
          clear hm6 hm6' hby hkx hz hin hlt hi
          have f2 : Go.bits .xor .u8 0 (x : Int) = (z : Int) := f1
          go_wp2_with (first
            | ((with_reducible refine gate_dst (N := 32) rfl ?_); refine print_append_num (w0 := wr) w.heap.size rfl (.tmp 27) (.tmp 31) 22 5 .u8 1 rfl rfl rfl (by omega) (.slice A6 m6 k6) (cN ((kx xs x).take i)) (z : Int) rfl rfl HO6.out (Below.refl _ _) HP.out.size hl6 ?_; intro v8 w8 ho hb hg hat; clear hg hat; have HO8 := Aside0.mk ho; have HP8 := Aside0.mk hb; clear ho hb))
          have ho := HO8.out
          rw [show cN ((kx xs x).take i) ++ [(z : Int)] = cN ((kx xs x).take (i + 1)) by rw [← HKX.out, cN_append]; rfl] at ho
          have v9 := inc64 HLT.out
          try rw [v9]
          refine ⟨⟨i + 1, HLT.out, by rw [Int.natCast_add]; rfl, Aside0.mk ho, Aside0.mk (HP.out.trans (HP8.out.mono (Nat.le_refl _)))⟩, meas64' HLT.out⟩
      · have hi' : i = 64 := by omega
        subst hi'
        obtain rfl : m6 = 64 := hm6'
        obtain ⟨g6, rfl⟩ : ∃ g, A6 = some ⟨g, 0, none⟩ := by
          rcases HO6.out.2 with ⟨e, h0⟩ | ⟨b0, cap, cur, e, _⟩
          · rw [← hm6] at h0; cases h0
          · injection e with e1 e2 e3
            exact ⟨b0, e1⟩
        have HF : Aside0 (wr.ownsRow w.heap.size 5 1 (.slice (some ⟨g6, 0, none⟩) 64 k6) 64 (nums .u8 (cN (kx xs x)))) := Aside0.mk (by
          have h := HO6.out
          rw [← hm6, List.take_of_length_le (by rw [kx_length]; exact Nat.le_refl _)] at h
          exact own_lower h (Nat.le_refl _))
        rw [show ((64 : Nat) : Int) = 64 from rfl]
        have HPW : Aside0 (Below w.heap.size w wr) := Aside0.mk (HP.out)
        clear hlt hi hm6 hl6
        go_wp2
        go_ret
        exact ⟨g6, k6, rfl, HF.out, HPW.out⟩
  · have p0 : ¬ (m0 : Int) ≤ 64 := by omega
    have HK : Aside0 (kk0 xs = sum xs) := Aside0.mk (by unfold kk0; rw [if_pos (by have := HM.out.1; omega)])
    have hsu := rsum_calls A0 k0 xs w HR0.out HX.out (by have := HL.out; omega)
    rw [← HM.out.2] at hsu
    have HSU := Aside0.mk hsu
    clear hbig hm0 hsu
    go_enter Try.func26, Try.ntmps26
    go_upto_region 2 with (fail)
    rename_i K0 hK0
    apply wp_region_lit
    refine Go.Great.wpList_readTo rfl (some 12) rfl (.slice A0 m0 k0) rfl ?_
    refine wpList_callR rfl (some 13) rfl 11 #[.slice A0 m0 k0] (by simp only [Act.put, List.setIfInBounds_toArray, List.set_cons_zero, List.set_cons_succ]; go_simp) _ HSU.out ?_
    rintro e w6 ⟨rfl, hB6⟩
    refine ⟨_, rfl, ?_⟩
    obtain ⟨D, hDg⟩ : ∃ D, sum xs = D := ⟨_, rfl⟩
    have hDl0 : D.length = 32 := by rw [← hDg]; rfl
    rw [hDg]
    rw [hDg] at HK
    have hDl : (cN D).length = 32 := by rw [cN_length, hDl0]
    have hl1 : (ints .u8 (cN D)).length = 32 := by rw [ints_length, hDl]
    refine Go.Great.wpList_allocTo rfl (some 5) rfl _ (.cells (ints .u8 (cN z32)).toArray 25) rfl ?_
    have hA := Arr.new w6 .u8 25 (cN z32)
    have hP7 : Below w6.heap.size w6 (w6.alloc (.cells (ints .u8 (cN z32)).toArray 25)) := below_alloc (Below.refl _ _) _
    generalize w6.alloc (.cells (ints .u8 (cN z32)).toArray 25) = w7 at *
    refine wpList_store_mid rfl 25 (.tmp 5) (.tmp 13) rfl w6.heap.size 0 (ints .u8 (cN D)).toArray rfl rfl (hA.there (by rw [List.size_toArray, hl1]; rfl)) (by rw [List.size_toArray, hl1]; rfl) (all_oneCell_toArray (ints_one _ _)) ?_
    have hA2 := hA.setCells (ys := cN D) (by rw [cN_length, hDl]; rfl)
    have hP8 := below_setCells (Nat.le_refl w6.heap.size) (ints .u8 (cN D)) 0 w7 hP7
    apply wpList_nil
    refine hK0 _ _ ?_
    rw [List.toList_toArray]
    clear hA hP7 hK0 K0
    generalize w7.setCells w6.heap.size 0 (ints .u8 (cN D)) = w8 at *
    have hB8 : Below w.heap.size w w8 := hB6.trans (hP8.mono hB6.size)
    have hs8 : w.heap.size ≤ w8.heap.size := hB8.size
    have HB8 := Aside0.mk hB8
    have HA8 := Aside0.mk hA2
    have HDL := Aside0.mk (And.intro hDl0 hDl)
    have HS8 := Aside0.mk hs8
    clear hB6 hDg hDl0 hDl hl1 hA2 hP8 hB8 hs8 HSU
    have HKM : Aside0 (32 = (kk0 xs).length) := Aside0.mk (by rw [HK.out]; exact HDL.out.1.symm)
    have HGD : Aside0 (w6.heap.size < w8.heap.size) := Aside0.mk HA8.out.size
    have HKC : Aside0 (∀ W, Below w8.heap.size w8 W → Kd.C (Kd.int .u8) W (some ⟨w6.heap.size, 0, none⟩) (cN (kk0 xs)).length (cN (kk0 xs))) := Aside0.mk (fun W hb => by rw [HK.out, HDL.out.2]; exact arr_C32 HDL.out.2 (HA8.out.below hb HA8.out.size))
    have HB0 : Aside0 (Below w8.heap.size w8 w8) := Aside0.mk (Below.refl _ _)
    generalize w6.heap.size = gd at *
    go_wp2
    go_loopw [6, 7] (fun vo v wr => ∃ i : Nat, i ≤ 64 ∧ v = .int .i64 (i : Int) ∧ Aside0 (wr.ownsRow w8.heap.size 5 1 vo (cN ((kx xs x).take i)).length (nums .u8 (cN ((kx xs x).take i)))) ∧ Aside0 (Below w8.heap.size w8 wr))
      (fun _ v _ => 64 - (intOf v).toNat)
    case atStart => exact ⟨0, by omega, rfl, Aside0.mk (own_nil _), HB0⟩
    case round =>
      obtain ⟨i, hi, rfl, HO, HP⟩ := hrel
      obtain ⟨A6, k6, rfl⟩ := own_slice HO.out
      obtain ⟨m6, hm6⟩ : ∃ m, m = (cN ((kx xs x).take i)).length := ⟨_, rfl⟩
      have hm6' : m6 = i := by rw [hm6, cN_length, List.length_take, kx_length]; omega
      rw [← hm6]
      have HO6 : Aside0 (wr.ownsRow w8.heap.size 5 1 (.slice A6 m6 k6) (cN ((kx xs x).take i)).length (nums .u8 (cN ((kx xs x).take i)))) := Aside0.mk (by rw [hm6]; exact HO.out)
      have hl6 : ((cN ((kx xs x).take i)).length + 1) * 1 ≤ 140737488355328 := by omega
      clear HO
      by_cases hlt : i < 64
      · have t1 : (i : Int) < 64 := by omega
        have HLT := Aside0.mk hlt
        have HPW : Aside0 (Below w.heap.size w wr) := Aside0.mk (HB8.out.trans (HP.out.mono HS8.out))
        have hby := kb_bs xs HX.out i
        have hget := kb_get xs i
        have hkx := kx_take xs x i hlt
        obtain ⟨y, hY⟩ : ∃ y, (kb xs).getD i 0 = y := ⟨_, rfl⟩
        rw [hY] at hby hget hkx
        clear hY
        obtain ⟨z, hz⟩ : ∃ z, z = y ^^^ x := ⟨_, rfl⟩
        rw [← hz] at hkx
        have f1 : Go.bits .xor .u8 (y : Int) (x : Int) = (z : Int) := by rw [hz]; exact u8_xor_nat y x hby HXB.out
        have HKX := Aside0.mk hkx
        by_cases hin : i < 32
        · have t2 : (i : Int) < 32 := by omega
          rw [if_pos (by rw [← HKM.out]; exact hin)] at hget
          obtain ⟨ad, eA, hc⟩ := kC_cell (HKC.out wr HP.out) i (by rw [← HKM.out]; exact hin)
          cases eA
          rw [show (⟨gd, 0, none⟩ : Addr).add i = ⟨gd, i, none⟩ by rw [Addr.add_mid, Nat.zero_add]] at hc
          rw [← hget] at hc
          have HO7 := HO6
          clear hm6 hm6' hby hget hkx hz hin hlt hi
          go_wp2_with (first
            | ((with_reducible refine gate_dst (N := 32) rfl ?_); refine print_append_num (w0 := wr) w8.heap.size rfl (.tmp 27) (.tmp 31) 22 5 .u8 1 rfl rfl rfl (by omega) (.slice A6 m6 k6) (cN ((kx xs x).take i)) (z : Int) rfl rfl HO6.out (Below.refl _ _) HP.out.size hl6 ?_; intro v8 w8 ho hb hg hat; clear hg hat; have HO8 := Aside0.mk ho; have HP8 := Aside0.mk hb; clear ho hb))
          have ho := HO8.out
          rw [show cN ((kx xs x).take i) ++ [(z : Int)] = cN ((kx xs x).take (i + 1)) by rw [← HKX.out, cN_append]; rfl] at ho
          have v9 := inc64 HLT.out
          try rw [v9]
          refine ⟨⟨i + 1, HLT.out, by rw [Int.natCast_add]; rfl, Aside0.mk ho, Aside0.mk (HP.out.trans HP8.out)⟩, meas64' HLT.out⟩
        · have t2 : ¬ (i : Int) < 32 := by omega
          rw [if_neg (by rw [← HKM.out]; exact hin)] at hget
          subst hget
          clear hm6 hm6' hby hkx hz hin hlt hi
          have f2 : Go.bits .xor .u8 0 (x : Int) = (z : Int) := f1
          go_wp2_with (first
            | ((with_reducible refine gate_dst (N := 32) rfl ?_); refine print_append_num (w0 := wr) w8.heap.size rfl (.tmp 27) (.tmp 31) 22 5 .u8 1 rfl rfl rfl (by omega) (.slice A6 m6 k6) (cN ((kx xs x).take i)) (z : Int) rfl rfl HO6.out (Below.refl _ _) HP.out.size hl6 ?_; intro v8 w8 ho hb hg hat; clear hg hat; have HO8 := Aside0.mk ho; have HP8 := Aside0.mk hb; clear ho hb))
          have ho := HO8.out
          rw [show cN ((kx xs x).take i) ++ [(z : Int)] = cN ((kx xs x).take (i + 1)) by rw [← HKX.out, cN_append]; rfl] at ho
          have v9 := inc64 HLT.out
          try rw [v9]
          refine ⟨⟨i + 1, HLT.out, by rw [Int.natCast_add]; rfl, Aside0.mk ho, Aside0.mk (HP.out.trans HP8.out)⟩, meas64' HLT.out⟩
      · have hi' : i = 64 := by omega
        subst hi'
        obtain rfl : m6 = 64 := hm6'
        obtain ⟨g6, rfl⟩ : ∃ g, A6 = some ⟨g, 0, none⟩ := by
          rcases HO6.out.2 with ⟨e, h0⟩ | ⟨b0, cap, cur, e, _⟩
          · rw [← hm6] at h0; cases h0
          · injection e with e1 e2 e3
            exact ⟨b0, e1⟩
        have HF : Aside0 (wr.ownsRow w.heap.size 5 1 (.slice (some ⟨g6, 0, none⟩) 64 k6) 64 (nums .u8 (cN (kx xs x)))) := Aside0.mk (by
          have h := HO6.out
          rw [← hm6, List.take_of_length_le (by rw [kx_length]; exact Nat.le_refl _)] at h
          exact own_lower h HS8.out)
        rw [show ((64 : Nat) : Int) = 64 from rfl]
        have HPW : Aside0 (Below w.heap.size w wr) := Aside0.mk (HB8.out.trans (HP.out.mono HS8.out))
        clear hlt hi hm6 hl6
        go_wp2
        go_ret
        exact ⟨g6, k6, rfl, HF.out, HPW.out⟩
end Go.Proofs.Ytinjhmmbndonhaa.PShaSums
