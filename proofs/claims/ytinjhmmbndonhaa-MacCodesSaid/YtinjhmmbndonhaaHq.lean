/- The walk of ShaParts. -/
import Derived.Test.YtinjhmmbndonhaaHo
namespace Go.Proofs.Ytinjhmmbndonhaa.PShaSums
open Go.RowKit Go.Proofs.YtinjhmmbndonhaaW.PrintWords Go.Proofs.YtinjhmmbndonhaaW.PrintLast Go.Proofs.YtinjhmmbndonhaaW.PrintMore Go.Proofs.Ytinjhmmbndonhaa.Sha Go.Proofs.Ytinjhmmbndonhaa.Arr
attribute [local go_sem] max2_int min2_int max_two min_two max_three min_three max_four min_four
attribute [local go_sem high] u8_w
set_option linter.unusedVariables false
set_option linter.unusedSimpArgs false
theorem eql_sum' (xs ys : List Nat) (w : World) : (binOp .eql 25 (.agg (ints .u8 (cN (sum xs))).toArray) (.agg (ints .u8 (cN (sum ys))).toArray)).run Try.prog w = .ok (.bool (decide (sum xs = sum ys))) w := eql_dig _ _ (sum_length xs) (sum_length ys) w
attribute [local go_sem high] eql_sum'
theorem cut_lo {P : Program} (t e : TypeId) {i : TypeInfo} (ht : P.underlying t = some (.slice e)) (hi : P.info? e = some i) (hsz : i.size = 1) (A : Option Addr) (n c m : Nat) (hm : m ≤ n) (W : World) :
    (Instr.slice t (.slice A n c) (some (.int .i64 (m : Int))) none none).run P W = .ok (.slice (if c = m then A else A.map (·.add m)) (n - m) (c - m)) W := by
  have hel : P.elem t = e := by simp [Program.elem, ht]
  have hu : P.underlying t = some (.slice (P.elem t)) := by rw [hel]; exact ht
  rw [run_slice_l W t A n c hu .i64 (m : Int) (Int.natCast_nonneg _) (by omega), hel]
  simp [sizeOf, typeInfo, hi, hsz, sliced, Result.andThen]
theorem cut_hi {P : Program} (t e : TypeId) {i : TypeInfo} (ht : P.underlying t = some (.slice e)) (hi : P.info? e = some i) (hsz : i.size = 1) (A : Option Addr) (n c m : Nat) (hm : m ≤ n) (hc : n ≤ c) (W : World) :
    (Instr.slice t (.slice A n c) none (some (.int .i64 (m : Int))) none).run P W = .ok (.slice A m c) W := by
  have hel : P.elem t = e := by simp [Program.elem, ht]
  have hu : P.underlying t = some (.slice (P.elem t)) := by rw [hel]; exact ht
  have ha : (A.map fun x => x.add 0) = A := by cases A <;> simp [Addr.add]
  rw [run_slice_h W t A n c hu .i64 (m : Int) (Int.natCast_nonneg _) (by omega), hel]
  simp [sizeOf, typeInfo, hi, hsz, sliced, Result.andThen, ha]
theorem own_cap {w : World} {base m n k : Nat} {e : TypeId} {A : Option Addr} {xs : List Value} (h : w.ownsRow base e 1 (.slice A m k) n xs) (he : m = n) : m ≤ k := by
  rcases h.2 with ⟨e1, e2⟩ | ⟨g, cap, cur, e1, _, _, hc, _⟩
  · injection e1 with e1 e3 e4
    omega
  · injection e1 with e1 e3 e4
    omega
theorem own_Cq {w : World} {base m k : Nat} {e : TypeId} {A : Option Addr} {b : List Nat} (h : w.ownsRow base e 1 (.slice A m k) (cN b).length (nums .u8 (cN b))) : Kd.C (Kd.int .u8) w A (cN b).length (cN b) := by
  obtain ⟨A9, c9, e9, h9⟩ := own_reads_of (enc := Value.int .u8) (d := (0 : Int)) h
  injection e9 with e1 e2 e3
  rw [e1]
  exact Kd.C_of_reads (h1 := fun _ => rfl) h9
theorem own_from {w : World} {base n : Nat} {e : TypeId} {v : Value} {xs : List Value} (h : w.ownsRow base e 1 v n xs) (q : Nat) (hq : v.ownBlock = some q) : base ≤ q := by
  rcases h.2 with ⟨e1, e2⟩ | ⟨g, cap, cur, e1, hg, _⟩
  · rw [e1] at hq; cases hq
  · rw [e1] at hq
    injection hq with hq
    have hq' : g = q := hq
    omega
theorem sum_len32 (b : List Nat) : (cN (sum b)).length = 32 := by rw [cN_length]; rfl
theorem Took.drew {w : World} {g : Nat} {xs : List Nat} {v : Value} (h : Took w g xs v) : Took w.drew g xs v := HashAt.kept h rfl (fun _ _ => rfl)
theorem arr_load {w : World} {g : Nat} {xs : List Int} (h : Arr .u8 25 w g xs) (hl : xs.length = 32) : (Instr.loadAt 25 (.pointer (some ⟨g, 0, none⟩))).run Try.prog w = .ok (.agg (ints .u8 xs).toArray) w :=
  run_loadAt_mid w g 0 25 (ints .u8 xs) _ h.range rfl rfl (by rw [ints_length, hl]; rfl)
set_option maxHeartbeats 8000000 in
set_option maxRecDepth 100000 in
theorem parts_calls (A0 : Option Addr) (k0 : Nat) (b : List Nat) (at_ : Int) (w : World) (hr0 : Kd.C (Kd.int .u8) w A0 (cN b).length (cN b)) (hb0 : Bs b) :
    Calls Try.prog 5 #[.slice A0 (cN b).length k0, .int .i64 at_] w fun e w' => e = .returned (.bool true) ∧ Below w.heap.size w w' := by
  obtain ⟨m0, hm0⟩ : ∃ m, m = (cN b).length := ⟨_, rfl⟩
  have HR0 := Aside0.mk hr0
  have HBS := Aside0.mk hb0
  have HM := Aside0.mk hm0
  rw [← hm0]
  clear hr0 hb0
  by_cases hbig : m0 ≤ 5000 ∧ 0 ≤ at_ ∧ at_ ≤ m0
  · obtain ⟨l0, l1, l2⟩ := hbig
    obtain ⟨n, rfl⟩ := Int.eq_ofNat_of_zero_le l1
    have p0 : (m0 : Int) ≤ 5000 := by omega
    have p1 : (n : Int) ≤ (m0 : Int) := by omega
    have HLN : Aside0 (b.length ≤ 5000 ∧ n ≤ b.length ∧ m0 = b.length) := Aside0.mk (by simp only [cN_length] at hm0; omega)
    clear hm0 l0 l1 l2
    go_enter Try.func5, Try.ntmps5
    go_wp2_with fail
    refine (up_calls w).mono ?_
    rintro e w1 ⟨rfl, hB1⟩
    go_wp2_with fail
    refine (took_new w1).mono ?_
    rintro e w2 ⟨h, rfl, hh, hT2, hB2⟩
    have HBa : Aside0 (Below w.heap.size w w2) := Aside0.mk (hB1.trans (hB2.mono hB1.size))
    have HH : Aside0 (w.heap.size ≤ h) := Aside0.mk (Nat.le_trans hB1.size hh)
    have HT2 := Aside0.mk hT2
    clear hB1 hB2 hT2 hh
    have HO2 : Aside0 ((w2.alloc (.cells #[] 5)).ownsRow w2.heap.size 5 1 (.slice (some ⟨w2.heap.size, 0, none⟩) 0 0) ([] : List Int).length (nums .u8 [])) := Aside0.mk (own_lit w2 w2.heap.size 5 .u8 [] (Nat.le_refl _) (by simp))
    have HP2 : Aside0 (Below w2.heap.size w2 (w2.alloc (.cells #[] 5))) := Aside0.mk (below_alloc (Below.refl _ _) _)
    have HQ2 : Aside0 (ReadsInt (w2.alloc (.cells #[] 5)) .u8 A0 m0 (cN b)) := Aside0.mk (by rw [HM.out]; exact reads_of .u8 (Kd.C_below HR0.out (HBa.out.trans (HP2.out.mono HBa.out.size))))
    have hl2 : (([] : List Int).length + m0) * 1 ≤ 140737488355328 := by have := HLN.out; show (0 + m0) * 1 ≤ _; omega
    go_wp2_with (first
      | ((with_reducible refine gate_dst (N := 36) rfl ?_); refine print_append_row (w0 := w2) w2.heap.size rfl (.tmp 34) (.tmp 35) 22 5 .u8 1 rfl rfl rfl (by omega) (.slice (some ⟨w2.heap.size, 0, none⟩) 0 0) [] (cN b) A0 m0 k0 rfl rfl HO2.out HQ2.out HP2.out HP2.out.size hl2 ?_; intro v8 w3 ho hb hg hat; clear hg hat; obtain ⟨A8, k8, e8⟩ := own_slice ho; obtain ⟨m8, hm8⟩ : ∃ m8, m8 = ([] ++ cN b).length := ⟨_, rfl⟩; rw [← hm8] at e8; subst e8; have em : m8 = m0 := (by rw [hm8, HM.out, List.nil_append]); clear hm8; subst em; rw [List.nil_append] at ho; have t1 := own_cap ho HM.out; have HO3 := Aside0.mk ho; have HP3 := Aside0.mk hb; clear ho hb; have t2 : n ≤ k8 := (by omega); have t3 : (n : Int) ≤ (k8 : Int) := (by omega); obtain ⟨A9, hA9⟩ : ∃ A9, (if k8 = n then A8 else A8.map (fun x => x.add n)) = A9 := ⟨_, rfl⟩; obtain ⟨p2, hp2⟩ : ∃ p, m8 - n = p := ⟨_, rfl⟩; obtain ⟨k9, hk9⟩ : ∃ p, k8 - n = p := ⟨_, rfl⟩; clear HO2 HQ2 hl2 HP2))
    have HBb : Aside0 (Below w.heap.size w w3) := Aside0.mk (HBa.out.trans (HP3.out.mono HBa.out.size))
    have HT3 := Aside0.mk (HT2.out.below HP3.out)
    have HQ : Aside0 (∀ q, (Value.slice A8 m8 k8).ownBlock = some q → w2.heap.size ≤ q ∧ q < w3.heap.size) := Aside0.mk (fun q hq => ⟨own_from HO3.out q hq, own_lt HO3.out q hq⟩)
    have HNH : Aside0 (h < w2.heap.size) := Aside0.mk HT2.out.size
    have HF : Aside0 (∀ ad, A8 = some ad → ad.block ≠ h) := Aside0.mk (fun ad e he => by
      have h1 := HQ.out ad.block (by rw [e]; rfl)
      have h2 := HT2.out.size
      omega)
    have hW := took_write A8 k8 (b.take n) w3 h [] _ HT3.out (by rw [cN_take]; exact Kd.C_take (own_Cq HO3.out) (by rw [cN_length]; exact HLN.out.2.1)) (HBS.out.take n) (fun ad e _ => HF.out ad e) (by rw [List.length_take]; have := HLN.out; show 0 + _ ≤ _; omega)
    rw [show (cN (b.take n)).length = n by rw [cN_length, List.length_take]; have := HLN.out; omega] at hW
    have HW := Aside0.mk hW
    clear hW HT2
    refine HW.out.mono ?_
    rintro e w4 ⟨rfl, v4, hT4, hk4, hat4⟩
    rw [List.nil_append] at hT4
    have HBc : Aside0 (Below w.heap.size w w4) := Aside0.mk (HBb.out.trans (hk4.below HH.out (fun k hk => by cases hk) HBb.out.size))
    have HV4 : Aside0 (∀ k, v4.ownBlock = some k → w3.heap.size ≤ k) := Aside0.mk (by
      intro k hk
      rcases hat4 with e | ⟨q, e, hq⟩
      · rw [e] at hk; cases hk
      · rw [e] at hk
        injection hk with hk
        omega)
    have HO4 := Aside0.mk (own_move HO3.out (w1 := w4) (fun q hq => hk4.keep.2 q (HQ.out q hq).2 (by have h1 := (HQ.out q hq).1; have := HNH.out; omega) (fun e => by cases e)))
    have HT4 := Aside0.mk hT4
    have HS4 : Aside0 (w3.heap.size ≤ w4.heap.size) := Aside0.mk hk4.keep.1
    clear hT4 hk4 hat4 HW HT3 HO3 HP3
    have hC9 := Kd.C_drop (m := n) (c := k8) (own_Cq HO4.out) (by rw [cN_length]; exact HLN.out.2.1) (by rw [← HM.out]; exact t1)
    rw [show (if k8 = n then A8 else A8.map (·.add (n * (Kd.int .u8).sz))) = A9 by rw [← hA9, show n * (Kd.int .u8).sz = n from Nat.mul_one n], ← cN_drop] at hC9
    have hW := took_write A9 k9 (b.drop n) w4 h (b.take n) v4 HT4.out hC9 (HBS.out.drop n) (fun ad e _ => by
      rw [← hA9] at e
      split at e
      · exact HF.out ad e
      · rcases A8 with _ | a8
        · cases e
        · injection e with e
          rw [← e, show (a8.add n).block = a8.block by unfold Addr.add; split <;> rfl]
          exact HF.out a8 rfl) (by rw [List.length_take, List.length_drop]; have := HLN.out; omega)
    rw [List.take_append_drop, show (cN (b.drop n)).length = p2 by rw [cN_length, List.length_drop, ← hp2]; have := HLN.out; omega] at hW
    have HW := Aside0.mk hW
    clear hW hC9
    go_wp2_with fail
    refine HW.out.mono ?_
    rintro e w5 ⟨rfl, v5, hT5, hk5, hat5⟩
    have HBd : Aside0 (Below w.heap.size w w5) := Aside0.mk (HBc.out.trans (hk5.below HH.out (fun k hk => by have := HV4.out k hk; have := HBb.out.size; omega) HBc.out.size))
    have HV5 : Aside0 (∀ k, v5.ownBlock = some k → w3.heap.size ≤ k) := Aside0.mk (by
      intro k hk
      rcases hat5 with e | ⟨q, e, hq⟩
      · rw [e] at hk; exact HV4.out k hk
      · rw [e] at hk
        injection hk with hk
        have := HS4.out
        omega)
    have HO5 := Aside0.mk (own_move HO4.out (w1 := w5) (fun q hq => hk5.keep.2 q (own_lt HO4.out q hq) (by have h1 := (HQ.out q hq).1; have := HNH.out; omega) (fun e => by have h1 := HV4.out q e.symm; have := (HQ.out q hq).2; omega)))
    have HT5 := Aside0.mk hT5
    have hs5 : w3.heap.size ≤ w5.heap.size := Nat.le_trans HS4.out hk5.keep.1
    have HSU := sum_calls A8 k8 b w5 (own_Cq HO5.out) HBS.out (by have := HLN.out; omega)
    rw [← HM.out] at HSU
    have HSU := Aside0.mk HSU
    have HS5 := Aside0.mk hs5
    clear hT5 hk5 hat5 HW HT4 HO4 HS4 HV4 HBc hs5 hA9 hp2 hk9
    go_upto_region 8 with (fail)
    rename_i K0 hK0
    apply wp_region_lit
    refine Go.Great.wpList_readTo rfl (some 47) rfl (.slice A8 m8 k8) rfl ?_
    refine wpList_callR rfl (some 48) rfl 10 #[.slice A8 m8 k8] (by simp only [Act.put, List.setIfInBounds_toArray, List.set_cons_zero, List.set_cons_succ]; go_simp) _ HSU.out ?_
    rintro e w6 ⟨rfl, hB6⟩
    refine ⟨_, rfl, ?_⟩
    generalize hDg : cN (sum b) = D
    have hDl : D.length = 32 := by rw [← hDg, cN_length]; rfl
    have hl1 : (ints .u8 D).length = 32 := by rw [ints_length, hDl]
    have hBe : Below w.heap.size w w6 := HBd.out.trans (hB6.mono HBd.out.size)
    have hT6 := HT5.out.below hB6
    have hO6 := own_move HO5.out (w1 := w6) (fun q hq => hB6.block q (own_lt HO5.out q hq))
    refine Go.Great.wpList_allocTo rfl (some 8) rfl _ (.cells (ints .u8 (cN z32)).toArray 25) rfl ?_
    have hA := Arr.new w6 .u8 25 (cN z32)
    have hP7 : Below w6.heap.size w6 (w6.alloc (.cells (ints .u8 (cN z32)).toArray 25)) := below_alloc (Below.refl _ _) _
    have hG6 : Aside0 (w5.heap.size ≤ w6.heap.size) := Aside0.mk hB6.size
    generalize w6.alloc (.cells (ints .u8 (cN z32)).toArray 25) = w7 at *
    refine wpList_store_mid rfl 25 (.tmp 8) (.tmp 48) rfl w6.heap.size 0 (ints .u8 D).toArray rfl rfl (hA.there (by rw [List.size_toArray, hl1]; rfl)) (by rw [List.size_toArray, hl1]; rfl) (all_oneCell_toArray (ints_one _ _)) ?_
    have hA2 := hA.setCells (ys := D) (by rw [cN_length, hDl]; rfl)
    have hP8 := below_setCells (Nat.le_refl w6.heap.size) (ints .u8 D) 0 w7 hP7
    apply wpList_nil
    refine hK0 _ _ ?_
    rw [List.toList_toArray]
    clear hA hP7 hK0 K0
    generalize w7.setCells w6.heap.size 0 (ints .u8 D) = w8 at *
    have HBe : Aside0 (Below w.heap.size w w8) := Aside0.mk (hBe.trans (hP8.mono hBe.size))
    have HT8 := Aside0.mk (hT6.below hP8)
    have HO8 := Aside0.mk (own_move hO6 (w1 := w8) (fun q hq => hP8.block q (own_lt hO6 q hq)))
    have HA8 := Aside0.mk hA2
    have HG8 : Aside0 (w5.heap.size ≤ w6.heap.size) := hG6
    generalize w6.heap.size = g8 at *
    have HDG := Aside0.mk (And.intro hDg hDl)
    clear hDg hDl hl1 hBe hB6 hT6 hO6 hP8 hA2 hG6 HSU HT5 HO5 HBd
    have hS1 := own_string (src := 22) (dst := 9) rfl rfl rfl HO8.out (P := Try.prog)
    have hS2 := Kd.C_string (src := 22) (dst := 9) (c := k0) rfl rfl rfl (Kd.C_below HR0.out HBe.out) (P := Try.prog)
    rw [← HM.out] at hS2
    generalize strOfNums (cN b) = str at *
    go_wp2
    clear hS1 hS2
    have HNE : Aside0 (∀ q, (Value.slice A8 m8 k8).ownBlock = some q → q ≠ h ∧ (∀ j, v5.ownBlock = some j → j ≠ q) ∧ q ≠ g8 ∧ w.heap.size ≤ q) := Aside0.mk (fun q hq => by
      have h1 := HQ.out q hq
      have h2 := HNH.out
      have h3 := HG8.out
      have h4 := HS5.out
      have h5 := HBa.out.size
      exact ⟨by omega, fun j hj => by have := HV5.out j hj; omega, by omega, by omega⟩)
    clear HNH HF HV5 HQ HBa HBb HS5 HG8
    go_loopw [9] (fun v wr => ∃ i : Nat, i ≤ m8 ∧ v = .int .i64 (i : Int) ∧ Aside0 (∃ xs : List Int, wr.ownsRow w2.heap.size 5 1 (.slice A8 m8 k8) m8 (nums .u8 xs)) ∧ Aside0 (Took wr h b v5) ∧ Aside0 (Arr .u8 25 wr g8 D) ∧ Aside0 (Below w.heap.size w wr))
      (fun v _ => m8 - (intOf v).toNat)
    case atStart => exact ⟨0, by omega, rfl, Aside0.mk ⟨cN b, by have h := HO8.out; rwa [← HM.out] at h⟩, HT8, HA8, HBe⟩
    case round =>
      clear HO8 HT8 HA8 HBe
      obtain ⟨i, hi, rfl, HO, HT, HA, HB⟩ := hrel
      by_cases hx : i < m8
      · have t4 : (i : Int) < (m8 : Int) := by omega
        obtain ⟨xs, hO⟩ := HO.out
        obtain ⟨q, rfl⟩ : ∃ q, A8 = some ⟨q, 0, none⟩ := by
          rcases hO.2 with ⟨e, h0⟩ | ⟨b0, cap, cur, e, _⟩
          · omega
          · injection e with e1 e2 e3
            exact ⟨b0, e1⟩
        obtain ⟨hc, hf⟩ := own_at hO (i : Int) (by omega) t4
        have hst := fun x => (own_store hO (i : Int) x).1
        rw [Int.toNat_natCast] at hc hf
        simp only [Int.toNat_natCast] at hst
        have hne := HNE.out q rfl
        have HST := Aside0.mk hst
        have HNE1 := Aside0.mk hne
        generalize rd xs (i : Int) = x at *
        have HX := Aside0.mk hx
        clear hO HO hst hne hx hi
        go_wp2
        have h1 : Aside0 (∃ xs, (wr.setCell ⟨q, i, none⟩ (.int .u8 ((x + 1) % 256))).ownsRow w2.heap.size 5 1 (.slice (some ⟨q, 0, none⟩) m8 k8) m8 (nums .u8 xs)) := Aside0.mk ⟨_, HST.out ((x + 1) % 256)⟩
        have h2 : Aside0 (Took (wr.setCell ⟨q, i, none⟩ (.int .u8 ((x + 1) % 256))) h b v5) := Aside0.mk (HashAt.kept HT.out (Below.heap_setCell _ _ _ _ (fun e => HNE1.out.1 e.symm)) (fun j hj => Below.heap_setCell _ _ _ _ (HNE1.out.2.1 j hj)))
        have h3 := Aside0.mk (HA.out.other (p := ⟨q, i, none⟩) (fun e => HNE1.out.2.2.1 e.symm) (.int .u8 ((x + 1) % 256)))
        have h4 := Aside0.mk (HB.out.setCell (p := ⟨q, i, none⟩) HNE1.out.2.2.2 (.int .u8 ((x + 1) % 256)))
        have hx := HX.out
        exact ⟨⟨i + 1, by omega, by rw [Int.natCast_add]; rfl, h1, h2, h3, h4⟩, by show m8 - ((i : Int) + 1).toNat < m8 - (i : Int).toNat; omega⟩
      · have hi' : i = m8 := by omega
        subst hi'
        clear hx
        go_wp2
        obtain ⟨hD, _⟩ := HDG.out
        subst hD
        have HLB : Aside0 (b.length ≤ 1000000000) := Aside0.mk (by have := HLN.out.1; omega)
        clear HLN HDG HM p0 p1 t1 t2 t3 HNE HO HR0 HBS hi
        refine start_ (n := 8) (S := fun w' => Took w' h b v5 ∧ Arr .u8 25 w' g8 (cN (sum b)) ∧ Below w.heap.size w w') (ds := []) #[false, false, false, false, false, false, false, false] (by kernel_rfl) rfl rfl ⟨HT.out.drew, HA.out.drew, HB.out.drew⟩ (fun hHeld => ?_)
        refine pure_ (i := 0) (N := some 68) (v := ?_) (a' := ?_) #[true, false, false, false, false, false, false, false] rfl rfl (by kernel_rfl) (fun _ _ _ h => h) (Or.inl ⟨by rfl, ?_⟩) ?_ ?_
        rotate_left
        · intro w'
          go_simp
          with_reducible rfl
        rotate_left
        · simp only [Act.put, List.setIfInBounds_toArray, List.set_cons_zero, List.set_cons_succ, i64_w, i32_w]
          rfl
        refine pure_ (i := 1) (N := some 69) (v := ?_) (a' := ?_) #[true, true, false, false, false, false, false, false] rfl rfl (by kernel_rfl) (fun _ _ _ h => h) (Or.inl ⟨by rfl, ?_⟩) ?_ ?_
        rotate_left
        · intro w'
          go_simp
          with_reducible rfl
        rotate_left
        · simp only [Act.put, List.setIfInBounds_toArray, List.set_cons_zero, List.set_cons_succ, i64_w, i32_w]
          rfl
        refine pure_ (i := 2) (N := some 70) (v := ?_) (a' := ?_) #[true, true, true, false, false, false, false, false] rfl rfl (by kernel_rfl) (fun _ _ _ h => h) (Or.inl ⟨by rfl, ?_⟩) ?_ ?_
        rotate_left
        · intro w'
          go_simp
          with_reducible rfl
        rotate_left
        · simp only [Act.put, List.setIfInBounds_toArray, List.set_cons_zero, List.set_cons_succ, i64_w, i32_w]
          rfl
        refine take_ (i := 4) (N := some 72) (a' := ?_) #[true, true, true, false, true, false, false, false] rfl rfl (by kernel_rfl) (fun _ _ _ h => h) (yieldsIf_load_mid (by rfl) 25 (.tmp 8) rfl g8 0 rfl (ints .u8 (cN (sum b))) _ (fun w' hS => hS.2.1.range) rfl rfl (by rw [ints_length, sum_len32]; rfl)) hHeld ?_ ?_
        rotate_left
        · simp only [Act.put, List.setIfInBounds_toArray, List.set_cons_zero, List.set_cons_succ, i64_w, i32_w]
          rfl
        refine one_ (i := 3) (N := some 71) #[true, true, true, true, true, false, false, false] rfl rfl (by kernel_rfl) (by decide) (fun K hK => ?_)
        refine goes_ Try.func13 (by kernel_rfl) rfl #[.pointer (some ⟨h, 0, none⟩)] (by rfl) rfl rfl (by simp only [List.map_toArray, List.map_cons, List.map_nil]; rfl) ?_
        with_reducible refine (took_sum _ h b v5 hHeld.1 HLB.out).mono ?_
        rintro e w3 ⟨rfl, hB3⟩
        refine ⟨_, rfl, ?_⟩
        refine hK.out _ _ ⟨hHeld.1.below hB3, hHeld.2.1.below hB3 hHeld.2.1.size, hHeld.2.2.trans (hB3.mono hHeld.2.2.size)⟩ (fun hHeld => ?_)
        clear hK K
        refine norm_ (a' := ?_) ?_ ?_
        rotate_left
        · show Act.put _ (some 71) _ = _
          simp only [Act.put, List.setIfInBounds_toArray, List.set_cons_zero, List.set_cons_succ, i64_w, i32_w]
          rfl
        refine pure_ (i := 5) (N := some 73) (v := ?_) (a' := ?_) #[true, true, true, true, true, true, false, false] rfl rfl (by kernel_rfl) (fun _ _ _ h => h) (Or.inl ⟨by rfl, ?_⟩) ?_ ?_
        rotate_left
        · intro w'
          go_simp
          with_reducible rfl
        rotate_left
        · simp only [Act.put, List.setIfInBounds_toArray, List.set_cons_zero, List.set_cons_succ, i64_w, i32_w]
          rfl
        refine pure_ (i := 6) (N := some 74) (v := ?_) (a' := ?_) #[true, true, true, true, true, true, true, false] rfl rfl (by kernel_rfl) (fun _ _ _ h => h) (Or.inl ⟨by rfl, ?_⟩) ?_ ?_
        rotate_left
        · intro w'
          go_simp
          with_reducible rfl
        rotate_left
        · simp only [Act.put, List.setIfInBounds_toArray, List.set_cons_zero, List.set_cons_succ, i64_w, i32_w]
          rfl
        refine pure_ (i := 7) (N := some 4) (v := ?_) (a' := ?_) #[true, true, true, true, true, true, true, true] rfl rfl (by kernel_rfl) (fun _ _ _ h => h) (Or.inl ⟨by rfl, ?_⟩) ?_ ?_
        rotate_left
        · intro w'
          go_simp
          with_reducible rfl
        rotate_left
        · simp only [Act.put, List.setIfInBounds_toArray, List.set_cons_zero, List.set_cons_succ, i64_w, i32_w]
          rfl
        refine done_ (by kernel_rfl) ?_
        go_wp2
        go_ret
        exact ⟨rfl, hHeld.2.2⟩
  · go_enter Try.func5, Try.ntmps5
    have hbig' : (decide (5000 < (m0 : Int)) || decide (at_ < 0) || decide ((m0 : Int) < at_)) = true := by simp; omega
    clear hm0 hbig
    go_wp2_with fail
    refine (up_calls w).mono ?_
    rintro e w1 ⟨rfl, hB1⟩
    go_wp2_with fail
    refine (took_new w1).mono ?_
    rintro e w2 ⟨h, rfl, hh, hT2, hB2⟩
    have HBa : Aside0 (Below w.heap.size w w2) := Aside0.mk (hB1.trans (hB2.mono hB1.size))
    clear hB1 hB2 hT2 hh
    go_wp2_with fail
    all_goals (go_ret; exact ⟨rfl, HBa.out⟩)
end Go.Proofs.Ytinjhmmbndonhaa.PShaSums
