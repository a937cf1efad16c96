/- The walk of MacParts. -/
import Derived.Test.YtinjhmmbndonhaaMd
namespace Go.Proofs.Ytinjhmmbndonhaa.PShaSums
open Go.RowKit Go.Proofs.YtinjhmmbndonhaaW.PrintWords Go.Proofs.YtinjhmmbndonhaaW.PrintLast Go.Proofs.YtinjhmmbndonhaaW.PrintMore Go.Proofs.Ytinjhmmbndonhaa.Sha Go.Proofs.Ytinjhmmbndonhaa.Arr
attribute [local go_sem] max2_int min2_int max_two min_two max_three min_three max_four min_four
attribute [local go_sem high] u8_w
set_option linter.unusedVariables false
set_option linter.unusedSimpArgs false
theorem neq_digM (a b : List Nat) (ha : a.length = 32) (hb : b.length = 32) (w : World) : (binOp .neq 25 (.agg (ints .u8 (cN a)).toArray) (.agg (ints .u8 (cN b)).toArray)).run Try.prog w = .ok (.bool (!decide (a = b))) w := by
  have h := eql_dig a b ha hb w
  rw [run_eql_struct] at h
  rw [run_neq_struct]
  cases e : (Op.equalIn 10000 25 (.agg (ints .u8 (cN a)).toArray) (.agg (ints .u8 (cN b)).toArray)).run Try.prog w with
  | ok r w' =>
    rw [e] at h
    simp only [Result.andThen_ok] at h ⊢
    injection h with h1 h2
    injection h1 with h1
    rw [h1, h2]
  | _ => rw [e] at h; simp [Result.andThen] at h
theorem macOf_length (k t : List Nat) : (macOf k t).length = 32 := rfl
theorem eqlM (k t k' t' : List Nat) (w : World) : (binOp .eql 25 (.agg (ints .u8 (cN (macOf k t))).toArray) (.agg (ints .u8 (cN (macOf k' t'))).toArray)).run Try.prog w = .ok (.bool (decide (macOf k t = macOf k' t'))) w := eql_dig _ _ (macOf_length k t) (macOf_length k' t') w
theorem neqM (k t k' t' : List Nat) (w : World) : (binOp .neq 25 (.agg (ints .u8 (cN (macOf k t))).toArray) (.agg (ints .u8 (cN (macOf k' t'))).toArray)).run Try.prog w = .ok (.bool (!decide (macOf k t = macOf k' t'))) w := neq_digM _ _ (macOf_length k t) (macOf_length k' t') w
attribute [local go_sem high] eqlM neqM
theorem alloc_size (u : World) (o : Obj) : (u.alloc o).heap.size = u.heap.size + 1 := by simp
theorem grown_lt {h : Array Obj} {i : Nat} {o : Obj} (e : h[i]? = some o) : i < h.size := (Array.getElem?_eq_some_iff.1 e).1
theorem mac_len32 (k t : List Nat) : (cN (macOf k t)).length = 32 := by rw [cN_length]; rfl
theorem flat1 (t : List Nat) : [t].flatten = t := by simp
theorem flat3 (t : List Nat) (n : Nat) : [t.take n, [], t.drop n].flatten = t := by simp
/-- a key with a byte 0 behind it is the same key -/
theorem mac_pad (key text : List Nat) (h : key.length ≤ 63) : macOf (key ++ [0]) text = macOf key text := by
  have e : kb (key ++ [0]) = kb key := by
    have e1 : kk0 key = key := by unfold kk0; rw [if_neg (by omega)]
    have e2 : kk0 (key ++ [0]) = key ++ [0] := by unfold kk0; rw [if_neg (by rw [List.length_append]; show ¬ 64 < key.length + 1; omega)]
    unfold kb
    rw [e1, e2, List.length_append, List.append_assoc]
    congr 1
    show 0 :: List.replicate (64 - (key.length + 1)) 0 = List.replicate (64 - key.length) 0
    rw [← List.replicate_succ, show 64 - (key.length + 1) + 1 = 64 - key.length by omega]
  have e3 : ∀ x, kx (key ++ [0]) x = kx key x := fun x => by unfold kx; rw [e]
  unfold macOf
  rw [e3, e3]
set_option maxHeartbeats 8000000 in
set_option maxRecDepth 100000 in
theorem mparts_calls (A0 : Option Addr) (k0 : Nat) (key : List Nat) (A1 : Option Addr) (k1 : Nat) (text : List Nat) (at_ : Int) (w : World) (hr0 : Kd.C (Kd.int .u8) w A0 (cN key).length (cN key)) (hr1 : Kd.C (Kd.int .u8) w A1 (cN text).length (cN text)) (hc1 : (cN text).length ≤ k1) (hb0 : Bs key) (hb1 : Bs text) :
    Calls Try.prog 8 #[.slice A0 (cN key).length k0, .slice A1 (cN text).length k1, .int .i64 at_] w fun e w' => e = .returned (.bool true) ∧ Below w.heap.size w w' := by
  obtain ⟨m0, hm0⟩ : ∃ m, m = (cN key).length := ⟨_, rfl⟩
  obtain ⟨m1, hm1⟩ : ∃ m, m = (cN text).length := ⟨_, rfl⟩
  have HR0 := Aside0.mk hr0
  have HR1 := Aside0.mk hr1
  have HBS := Aside0.mk (And.intro hb0 hb1)
  have HM := Aside0.mk (And.intro hm0 hm1)
  have HMN : Aside0 (m0 = key.length ∧ m1 = text.length) := Aside0.mk ⟨by rw [hm0, cN_length], by rw [hm1, cN_length]⟩
  rw [← hm1] at hc1
  rw [← hm0, ← hm1]
  clear hr0 hr1 hb0 hb1 hm0 hm1
  by_cases hbig : m0 ≤ 1000 ∧ m1 ≤ 1000 ∧ 0 ≤ at_ ∧ at_ ≤ m1
  · obtain ⟨l0, l1, l2, l3⟩ := hbig
    obtain ⟨n, rfl⟩ := Int.eq_ofNat_of_zero_le l2
    have p0 : (m0 : Int) ≤ 1000 := by omega
    have p1 : (m1 : Int) ≤ 1000 := by omega
    have p2 : (n : Int) ≤ (m1 : Int) := by omega
    have p3 : n ≤ k1 := by omega
    have p4 : (n : Int) ≤ (k1 : Int) := by omega
    have HLN : Aside0 (key.length ≤ 1000 ∧ text.length ≤ 1000 ∧ n ≤ text.length ∧ m1 ≤ k1) := Aside0.mk (by have := HMN.out; omega)
    clear l0 l1 l2 l3
    go_enter Try.func8, Try.ntmps8
    go_wp2_with fail
    refine (up4_calls w).mono ?_
    rintro e w1 ⟨rfl, hB1⟩
    have HB1 := Aside0.mk hB1
    clear hB1 hc1
    go_upto_region 4 with (fail)
    rename_i K0 hK0
    apply wp_region_lit
    have hbr : Below w1.heap.size w1 (w1.alloc (.cells #[.slice A1 m1 k1] 22)) := below_alloc (Below.refl _ _) _
    have HB2 : Aside0 (Below w.heap.size w (w1.alloc (.cells #[.slice A1 m1 k1] 22))) := Aside0.mk (below_alloc HB1.out _)
    have hrows : Kd.C (Kd.slice 5 (Kd.int .u8)) (w1.alloc (.cells #[.slice A1 m1 k1] 22)) (some ⟨w1.heap.size, 0, none⟩) ([text].map cN).length ([text].map cN) := by
      refine rows_mk [text] [.slice A1 m1 k1] (heap_alloc_new w1 _) (fun i x hx => ?_) (show (1 : Nat) ≤ _ by decide)
      match i, hx with
      | 0, hx => injection hx with hx; subst hx; exact ⟨A1, k1, by rw [HM.out.2]; rfl, by rw [← HM.out.2]; exact HLN.out.2.2.2, Kd.C_below HR1.out HB2.out⟩
      | n + 1, hx => cases hx
    have hof := of_calls A0 k0 key (some ⟨w1.heap.size, 0, none⟩) 1 [text] _ (Kd.C_below HR0.out HB2.out) hrows HBS.out.1 (fun x hx => by rw [List.mem_singleton] at hx; subst hx; exact HBS.out.2) (by have := HLN.out; omega) (show (1 : Nat) ≤ 30 by decide) (fun x hx => by rw [List.mem_singleton] at hx; subst hx; have := HLN.out; omega)
    rw [flat1, ← HM.out.1, show ([text].map cN).length = 1 from rfl] at hof
    have HOF := Aside0.mk hof
    clear hof hrows hbr
    refine Go.Great.wpList_readTo rfl (some 30) rfl (.slice A0 m0 k0) rfl ?_
    refine Go.Great.wpList_readTo rfl (some 31) rfl (.slice A1 m1 k1) rfl ?_
    refine Go.Great.wpList_runTo rfl (some 32) rfl (.slice (some ⟨w1.heap.size, 0, none⟩) 1 1) (w1.alloc (.cells #[.slice A1 m1 k1] 22)) (by simp only [Act.put, List.setIfInBounds_toArray, List.set_cons_zero, List.set_cons_succ]; go_simp) ?_
    refine wpList_callR rfl (some 33) rfl 18 #[.slice A0 m0 k0, .slice (some ⟨w1.heap.size, 0, none⟩) 1 1] (by simp only [Act.put, List.setIfInBounds_toArray, List.set_cons_zero, List.set_cons_succ]; go_simp) _ HOF.out ?_
    rintro e w6 ⟨rfl, hB6⟩
    refine ⟨_, rfl, ?_⟩
    simp only [Act.put, List.setIfInBounds_toArray, List.set_cons_zero, List.set_cons_succ]
    have hBe : Below w.heap.size w w6 := HB2.out.trans (hB6.mono HB2.out.size)
    have hDl : (cN (macOf key text)).length = 32 := mac_len32 key text
    have hl1 : (ints .u8 (cN (macOf key text))).length = 32 := by rw [ints_length, hDl]
    refine Go.Great.wpList_allocTo rfl (some 8) rfl _ (.cells (ints .u8 (cN z32)).toArray 25) rfl ?_
    have hA := Arr.new w6 .u8 25 (cN z32)
    have hP7 : Below w6.heap.size w6 (w6.alloc (.cells (ints .u8 (cN z32)).toArray 25)) := below_alloc (Below.refl _ _) _
    generalize w6.alloc (.cells (ints .u8 (cN z32)).toArray 25) = w7 at *
    refine wpList_store_mid rfl 25 (.tmp 8) (.tmp 33) rfl w6.heap.size 0 (ints .u8 (cN (macOf key text))).toArray rfl rfl (hA.there (by rw [List.size_toArray, hl1]; rfl)) (by rw [List.size_toArray, hl1]; rfl) (all_oneCell_toArray (ints_one _ _)) ?_
    have hA2 := hA.setCells (ys := cN (macOf key text)) (by rw [cN_length, hDl]; rfl)
    have hP8 := below_setCells (Nat.le_refl w6.heap.size) (ints .u8 (cN (macOf key text))) 0 w7 hP7
    apply wpList_nil
    refine hK0 _ _ ?_
    rw [List.toList_toArray]
    clear hA hP7 hK0 K0
    generalize w7.setCells w6.heap.size 0 (ints .u8 (cN (macOf key text))) = w8 at *
    have HB8 : Aside0 (Below w.heap.size w w8) := Aside0.mk (hBe.trans (hP8.mono hBe.size))
    have HA8 := Aside0.mk hA2
    have HG8 : Aside0 (w6.heap.size < w8.heap.size) := Aside0.mk hA2.size
    generalize w6.heap.size = gd at *
    clear hB6 hBe hDl hl1 hA2 hP8 HOF HB2
    have HO9 : Aside0 ((w8.alloc (.cells #[] 5)).ownsRow w8.heap.size 5 1 (.slice (some ⟨w8.heap.size, 0, none⟩) 0 0) ([] : List Int).length (nums .u8 [])) := Aside0.mk (own_lit w8 w8.heap.size 5 .u8 [] (Nat.le_refl _) (by simp))
    have HP9 : Aside0 (Below w8.heap.size w8 (w8.alloc (.cells #[] 5))) := Aside0.mk (below_alloc (Below.refl _ _) _)
    have HQ9 : Aside0 (ReadsInt (w8.alloc (.cells #[] 5)) .u8 A0 m0 (cN key)) := Aside0.mk (by rw [HM.out.1]; exact reads_of .u8 (Kd.C_below HR0.out (HB8.out.trans (HP9.out.mono HB8.out.size))))
    have hl9 : (([] : List Int).length + m0) * 1 ≤ 140737488355328 := by have := HLN.out; have := HMN.out; show (0 + m0) * 1 ≤ _; omega
    go_upto_region 6 with (first
      | ((with_reducible refine gate_dst (N := 36) rfl ?_); refine print_append_row (w0 := w8) w8.heap.size rfl (.tmp 34) (.tmp 35) 22 5 .u8 1 rfl rfl rfl (by omega) (.slice (some ⟨w8.heap.size, 0, none⟩) 0 0) [] (cN key) A0 m0 k0 rfl rfl HO9.out HQ9.out HP9.out HP9.out.size hl9 ?_; intro v9 w9 ho hb hg hat; clear hg hat; rw [List.nil_append] at ho; obtain ⟨A8, k8, e8⟩ := own_slice ho; rw [← HM.out.1] at e8; subst e8; have HO10 := Aside0.mk ho; have HP10 := Aside0.mk hb; clear ho hb HO9 HP9 HQ9 hl9))
    have HB10 : Aside0 (Below w.heap.size w w9) := Aside0.mk (HB8.out.trans (HP10.out.mono HB8.out.size))
    have HA10 := Aside0.mk (HA8.out.below HP10.out HG8.out)
    have HSW8 : Aside0 (w.heap.size ≤ w8.heap.size) := Aside0.mk HB8.out.size
    have HG8' := HG8
    have HG10 : Aside0 (gd < w9.heap.size) := Aside0.mk HA10.out.size
    have HS9 : Aside0 (w8.heap.size ≤ w9.heap.size) := Aside0.mk HP10.out.size
    clear HB8 HA8 HG8 HP10
    obtain ⟨A9, hA9⟩ : ∃ A9, (if k1 = n then A1 else A1.map (fun x => x.add n)) = A9 := ⟨_, rfl⟩
    obtain ⟨q2, hq2⟩ : ∃ q, m1 - n = q := ⟨_, rfl⟩
    obtain ⟨k9, hk9⟩ : ∃ q, k1 - n = q := ⟨_, rfl⟩
    have HC9 : Aside0 (Kd.C (Kd.int .u8) w A9 (cN (text.drop n)).length (cN (text.drop n)) ∧ (cN (text.drop n)).length = q2 ∧ q2 ≤ k9) := Aside0.mk (by
      have h := Kd.C_drop (m := n) (c := k1) HR1.out (by rw [cN_length]; exact HLN.out.2.2.1) (by rw [← HM.out.2]; exact HLN.out.2.2.2)
      rw [show (if k1 = n then A1 else A1.map (·.add (n * (Kd.int .u8).sz))) = A9 by rw [← hA9, show n * (Kd.int .u8).sz = n from Nat.mul_one n], ← cN_drop] at h
      have h1 := HMN.out.2
      have h2 := HLN.out
      exact ⟨h, by rw [cN_length, List.length_drop]; omega, by omega⟩)
    have HC8 : Aside0 (Kd.C (Kd.int .u8) w A1 (cN (text.take n)).length (cN (text.take n)) ∧ (cN (text.take n)).length = n) := Aside0.mk ⟨by rw [cN_take]; exact Kd.C_take HR1.out (by rw [cN_length]; exact HLN.out.2.2.1), by rw [cN_length, List.length_take]; have := HLN.out; omega⟩
    have HOF3 : Aside0 (∀ W, Below w.heap.size w W → W.ownsRow w8.heap.size 5 1 (.slice A8 m0 k8) (cN key).length (nums .u8 (cN key)) → ∀ g, W.heap[g]? = some (.cells [Value.slice A1 n k1, .slice none 0 0, .slice A9 q2 k9].toArray 22 (0, 0)) →
        Calls Try.prog 18 #[.slice A8 m0 k8, .slice (some ⟨g, 0, none⟩) 3 3] W fun e w' => e = .returned (.agg (ints .u8 (cN (macOf key text))).toArray) ∧ Below W.heap.size W w') := Aside0.mk (fun W hb ho g hg => by
      have hrows := rows_mk (w := W) [text.take n, [], text.drop n] [.slice A1 n k1, .slice none 0 0, .slice A9 q2 k9] hg (fun i x hx => by
        match i, hx with
        | 0, hx => injection hx with hx; subst hx; exact ⟨A1, k1, by rw [HC8.out.2]; rfl, by rw [HC8.out.2]; exact p3, Kd.C_below HC8.out.1 hb⟩
        | 1, hx => injection hx with hx; subst hx; exact ⟨none, 0, rfl, by decide, ⟨rfl, by decide, fun h => absurd h (by decide)⟩⟩
        | 2, hx => injection hx with hx; subst hx; exact ⟨A9, k9, by rw [HC9.out.2.1]; rfl, by rw [HC9.out.2.1]; exact HC9.out.2.2, Kd.C_below HC9.out.1 hb⟩
        | k + 3, hx => cases hx) (show (3 : Nat) ≤ _ by decide)
      have h := of_calls A8 k8 key (some ⟨g, 0, none⟩) 3 [text.take n, [], text.drop n] W (own_Cq ho) hrows HBS.out.1 (fun x hx => by
        simp only [List.mem_cons, List.not_mem_nil, or_false] at hx
        rcases hx with rfl | rfl | rfl
        · exact HBS.out.2.take n
        · exact bs_of_mem (by simp)
        · exact HBS.out.2.drop n) (by have := HLN.out; omega) (show (3 : Nat) ≤ 30 by decide) (fun x hx => by
        simp only [List.mem_cons, List.not_mem_nil, or_false] at hx
        have h2 := HLN.out
        rcases hx with rfl | rfl | rfl
        · rw [List.length_take]; omega
        · exact Nat.zero_le _
        · rw [List.length_drop]; omega)
      rw [flat3, ← HM.out.1] at h
      exact h)
    have HCV : Aside0 ((∀ W : World, W.ownsRow w8.heap.size 5 1 (.slice A8 m0 k8) (cN key).length (nums .u8 (cN key)) → (convert 22 9 (.slice A8 m0 k8)).run Try.prog W = .ok (.string (strOfNums (cN key))) W) ∧ (∀ W : World, Below w.heap.size w W → (convert 22 9 (.slice A0 m0 k0)).run Try.prog W = .ok (.string (strOfNums (cN key))) W)) := Aside0.mk ⟨fun W h => own_string rfl rfl rfl h, fun W hb => by
      have h := Kd.C_string (src := 22) (dst := 9) (c := k0) rfl rfl rfl (Kd.C_below HR0.out hb) (P := Try.prog)
      rw [← HM.out.1] at h
      exact h⟩
    have hrw : (World.drew (World.alloc w9 (.cells #[.slice A1 n k1, .slice none 0 0, .slice A9 q2 k9] 22))).heap[w9.heap.size]? = some (.cells [Value.slice A1 n k1, .slice none 0 0, .slice A9 q2 k9].toArray 22 (0, 0)) := heap_alloc_new w9 _
    have HRW := Aside0.mk hrw
    clear hrw
    refine start_ (n := 18) (S := fun w' => Below w.heap.size w w' ∧ w'.ownsRow w8.heap.size 5 1 (.slice A8 m0 k8) (cN key).length (nums .u8 (cN key)) ∧ Arr .u8 25 w' gd (cN (macOf key text)) ∧ (convert 22 9 (.slice A8 m0 k8)).run Try.prog w' = .ok (.string (strOfNums (cN key))) w' ∧ (convert 22 9 (.slice A0 m0 k0)).run Try.prog w' = .ok (.string (strOfNums (cN key))) w') (ds := []) #[false, false, false, false, false, false, false, false, false, false, false, false, false, false, false, false, false, false] (by kernel_rfl) rfl rfl ⟨HB10.out.drew, own_drew HO10.out, HA10.out.drew, HCV.out.1 _ (own_drew HO10.out), HCV.out.2 _ HB10.out.drew⟩ (fun hHeld => ?_)
    refine pure_ (i := 1) (N := some 38) (v := ?_) (a' := ?_) #[false, true, false, false, false, false, false, false, false, false, false, false, false, false, false, false, false, false] rfl rfl (by kernel_rfl) (fun _ _ _ h => h) (Or.inl ⟨by rfl, ?_⟩) ?_ ?_
    rotate_left
    · intro w'
      go_simp
      with_reducible rfl
    rotate_left
    · simp only [Act.put, List.setIfInBounds_toArray, List.set_cons_zero, List.set_cons_succ, i64_w, i32_w]
      rfl
    refine pure_ (i := 2) (N := some 39) (v := ?_) (a' := ?_) #[false, true, true, false, false, false, false, false, false, false, false, false, false, false, false, false, false, false] rfl rfl (by kernel_rfl) (fun _ _ _ h => h) (Or.inl ⟨by rfl, ?_⟩) ?_ ?_
    rotate_left
    · intro w'
      go_simp
      with_reducible rfl
    rotate_left
    · simp only [Act.put, List.setIfInBounds_toArray, List.set_cons_zero, List.set_cons_succ, i64_w, i32_w]
      rfl
    refine pure_ (i := 3) (N := some 40) (v := ?_) (a' := ?_) #[false, true, true, true, false, false, false, false, false, false, false, false, false, false, false, false, false, false] rfl rfl (by kernel_rfl) (fun _ _ _ h => h) (Or.inl ⟨by rfl, ?_⟩) ?_ ?_
    rotate_left
    · intro w'
      go_simp
      with_reducible rfl
    rotate_left
    · simp only [Act.put, List.setIfInBounds_toArray, List.set_cons_zero, List.set_cons_succ, i64_w, i32_w]
      rfl
    refine pure_ (i := 4) (N := some 41) (v := ?_) (a' := ?_) #[false, true, true, true, true, false, false, false, false, false, false, false, false, false, false, false, false, false] rfl rfl (by kernel_rfl) (fun _ _ _ h => h) (Or.inl ⟨by rfl, ?_⟩) ?_ ?_
    rotate_left
    · intro w'
      go_simp
      with_reducible rfl
    rotate_left
    · simp only [Act.put, List.setIfInBounds_toArray, List.set_cons_zero, List.set_cons_succ, i64_w, i32_w]
      rfl
    refine pure_ (i := 5) (N := some 42) (v := ?_) (a' := ?_) #[false, true, true, true, true, true, false, false, false, false, false, false, false, false, false, false, false, false] rfl rfl (by kernel_rfl) (fun _ _ _ h => h) (Or.inl ⟨by rfl, ?_⟩) ?_ ?_
    rotate_left
    · intro w'
      go_simp
      with_reducible rfl
    rotate_left
    · simp only [Act.put, List.setIfInBounds_toArray, List.set_cons_zero, List.set_cons_succ, i64_w, i32_w]
      rfl
    refine pure_ (i := 6) (N := some 43) (v := ?_) (a' := ?_) #[false, true, true, true, true, true, true, false, false, false, false, false, false, false, false, false, false, false] rfl rfl (by kernel_rfl) (fun _ _ _ h => h) (Or.inl ⟨by rfl, ?_⟩) ?_ ?_
    rotate_left
    · intro w'
      go_simp
      with_reducible rfl
    rotate_left
    · simp only [Act.put, List.setIfInBounds_toArray, List.set_cons_zero, List.set_cons_succ, i64_w, i32_w]
      rfl
    refine pure_ (i := 7) (N := some 44) (v := ?_) (a' := ?_) #[false, true, true, true, true, true, true, true, false, false, false, false, false, false, false, false, false, false] rfl rfl (by kernel_rfl) (fun _ _ _ h => h) (Or.inl ⟨by rfl, ?_⟩) ?_ ?_
    rotate_left
    · intro w'
      go_simp
      with_reducible rfl
    rotate_left
    · simp only [Act.put, List.setIfInBounds_toArray, List.set_cons_zero, List.set_cons_succ, i64_w, i32_w]
      rfl
    refine take_ (i := 0) (N := some 37) (a' := ?_) #[true, true, true, true, true, true, true, true, false, false, false, false, false, false, false, false, false, false] rfl rfl (by kernel_rfl) (fun _ _ _ h => h) (yieldsIf_load_mid (by rfl) 25 (.tmp 8) rfl gd 0 rfl (ints .u8 (cN (macOf key text))) _ (fun w' hS => hS.2.2.1.range) rfl rfl (by rw [ints_length, mac_len32]; rfl)) hHeld ?_ ?_
    rotate_left
    · simp only [Act.put, List.setIfInBounds_toArray, List.set_cons_zero, List.set_cons_succ, i64_w, i32_w]
      rfl
    refine one_ (i := 8) (N := some 45) #[true, true, true, true, true, true, true, true, true, false, false, false, false, false, false, false, false, false] rfl rfl (by kernel_rfl) (by decide) (fun K hK => ?_)
    refine value_ (w1 := ?_) (v := ?_) (by rfl) rfl ?_ ?_
    rotate_left 2
    · go_simp
      constructor
      · rfl
      · rfl
    refine hK.out _ _ ⟨below_alloc hHeld.1 _, own_move hHeld.2.1 (fun q hq => Below.heap_alloc _ _ _ (own_lt hHeld.2.1 q hq)), hHeld.2.2.1.alloc _, HCV.out.1 _ (own_move hHeld.2.1 (fun q hq => Below.heap_alloc _ _ _ (own_lt hHeld.2.1 q hq))), HCV.out.2 _ (below_alloc hHeld.1 _)⟩ (fun hHeld => ?_)
    clear hK K
    refine norm_ (a' := ?_) ?_ ?_
    rotate_left
    · show Act.put _ (some 45) _ = _
      simp only [Act.put, List.setIfInBounds_toArray, List.set_cons_zero, List.set_cons_succ, i64_w, i32_w]
      rfl
    refine one_ (i := 9) (N := some 46) #[true, true, true, true, true, true, true, true, true, true, false, false, false, false, false, false, false, false] rfl rfl (by kernel_rfl) (by decide) (fun K hK => ?_)
    refine goes_ Try.func18 (by kernel_rfl) rfl #[.slice A8 m0 k8, .slice (some ⟨w9.heap.size, 0, none⟩) 3 3] (by rfl) rfl rfl (by simp only [List.map_toArray, List.map_cons, List.map_nil]; rfl) ?_
    with_reducible refine (HOF3.out _ hHeld.1 hHeld.2.1 _ HRW.out).mono ?_
    rintro e u1 ⟨rfl, hB1⟩
    refine ⟨_, rfl, ?_⟩
    refine hK.out _ _ ⟨hHeld.1.trans (hB1.mono hHeld.1.size), own_move hHeld.2.1 (fun q hq => hB1.block q (own_lt hHeld.2.1 q hq)), hHeld.2.2.1.below hB1 hHeld.2.2.1.size, HCV.out.1 _ (own_move hHeld.2.1 (fun q hq => hB1.block q (own_lt hHeld.2.1 q hq))), HCV.out.2 _ (hHeld.1.trans (hB1.mono hHeld.1.size))⟩ (fun hHeld => ?_)
    clear hK K
    refine norm_ (a' := ?_) ?_ ?_
    rotate_left
    · show Act.put _ (some 46) _ = _
      simp only [Act.put, List.setIfInBounds_toArray, List.set_cons_zero, List.set_cons_succ, i64_w, i32_w]
      rfl
    refine pure_ (i := 10) (N := some 47) (v := ?_) (a' := ?_) #[true, true, true, true, true, true, true, true, true, true, true, false, false, false, false, false, false, false] rfl rfl (by kernel_rfl) (fun _ _ _ h => h) (Or.inl ⟨by rfl, ?_⟩) ?_ ?_
    rotate_left
    · intro w'
      go_simp
      with_reducible rfl
    rotate_left
    · simp only [Act.put, List.setIfInBounds_toArray, List.set_cons_zero, List.set_cons_succ, i64_w, i32_w]
      rfl
    refine pure_ (i := 11) (N := some 48) (v := ?_) (a' := ?_) #[true, true, true, true, true, true, true, true, true, true, true, true, false, false, false, false, false, false] rfl rfl (by kernel_rfl) (fun _ _ _ h => h) (Or.inl ⟨by rfl, ?_⟩) ?_ ?_
    rotate_left
    · intro w'
      go_simp
      with_reducible rfl
    rotate_left
    · simp only [Act.put, List.setIfInBounds_toArray, List.set_cons_zero, List.set_cons_succ, i64_w, i32_w]
      rfl
    refine pure_ (i := 12) (N := some 49) (v := ?_) (a' := ?_) #[true, true, true, true, true, true, true, true, true, true, true, true, true, false, false, false, false, false] rfl rfl (by kernel_rfl) (fun _ _ _ h => h) (Or.inl ⟨by rfl, ?_⟩) ?_ ?_
    rotate_left
    · intro w'
      go_simp
      with_reducible rfl
    rotate_left
    · simp only [Act.put, List.setIfInBounds_toArray, List.set_cons_zero, List.set_cons_succ, i64_w, i32_w]
      rfl
    refine pure_ (i := 14) (N := some 51) (v := ?_) (a' := ?_) #[true, true, true, true, true, true, true, true, true, true, true, true, true, false, true, false, false, false] rfl rfl (by kernel_rfl) (fun _ _ _ h => h) (Or.inl ⟨by rfl, ?_⟩) ?_ ?_
    rotate_left
    · intro w'
      go_simp
      with_reducible rfl
    rotate_left
    · simp only [Act.put, List.setIfInBounds_toArray, List.set_cons_zero, List.set_cons_succ, i64_w, i32_w]
      rfl
    refine take_ (i := 13) (N := some 50) (v := ?_) (a' := ?_) #[true, true, true, true, true, true, true, true, true, true, true, true, true, true, true, false, false, false] rfl rfl (by kernel_rfl) (fun _ _ _ h => h) (Or.inl ⟨by rfl, ?_⟩) hHeld ?_ ?_
    rotate_left
    · rintro w' ⟨s0, s1, s2, s3, s4⟩
      go_simp
      with_reducible rfl
    rotate_left
    · simp only [Act.put, List.setIfInBounds_toArray, List.set_cons_zero, List.set_cons_succ, i64_w, i32_w]
      rfl
    refine take_ (i := 15) (N := some 52) (v := ?_) (a' := ?_) #[true, true, true, true, true, true, true, true, true, true, true, true, true, true, true, true, false, false] rfl rfl (by kernel_rfl) (fun _ _ _ h => h) (Or.inl ⟨by rfl, ?_⟩) hHeld ?_ ?_
    rotate_left
    · rintro w' ⟨s0, s1, s2, s3, s4⟩
      go_simp
      with_reducible rfl
    rotate_left
    · simp only [Act.put, List.setIfInBounds_toArray, List.set_cons_zero, List.set_cons_succ, i64_w, i32_w]
      rfl
    refine pure_ (i := 16) (N := some 53) (v := ?_) (a' := ?_) #[true, true, true, true, true, true, true, true, true, true, true, true, true, true, true, true, true, false] rfl rfl (by kernel_rfl) (fun _ _ _ h => h) (Or.inl ⟨by rfl, ?_⟩) ?_ ?_
    rotate_left
    · intro w'
      go_simp
      with_reducible rfl
    rotate_left
    · simp only [Act.put, List.setIfInBounds_toArray, List.set_cons_zero, List.set_cons_succ, i64_w, i32_w]
      rfl
    refine pure_ (i := 17) (N := some 54) (v := ?_) (a' := ?_) #[true, true, true, true, true, true, true, true, true, true, true, true, true, true, true, true, true, true] rfl rfl (by kernel_rfl) (fun _ _ _ h => h) (Or.inl ⟨by rfl, ?_⟩) ?_ ?_
    rotate_left
    · intro w'
      go_simp
      with_reducible rfl
    rotate_left
    · simp only [Act.put, List.setIfInBounds_toArray, List.set_cons_zero, List.set_cons_succ, i64_w, i32_w]
      rfl
    refine done_ (by kernel_rfl) ?_
    have HB11 := Aside0.mk hHeld.1
    have HO11 := Aside0.mk hHeld.2.1
    have HA11 := Aside0.mk hHeld.2.2.1
    have HS11 : Aside0 (w8.heap.size ≤ u1.heap.size) := Aside0.mk (Nat.le_trans HS9.out (Nat.le_trans (below_alloc (Below.refl w9.heap.size w9) (.cells #[.slice A1 n k1, .slice none 0 0, .slice A9 q2 k9] 22)).size hB1.size))
    clear hB1
    clear hHeld HB10 HO10 HA10 HG10 HOF3 HCV HRW hA9 hq2 hk9
    go_wp2
    by_cases h63 : m0 ≤ 63
    · have c63 : ¬ (63 : Int) < (m0 : Int) := by omega
      have HK63 : Aside0 (key.length ≤ 63) := Aside0.mk (by have := HMN.out; omega)
      obtain ⟨n1, hn1⟩ : ∃ n1, n1 = m0 + 1 := ⟨_, rfl⟩
      have HN1 : Aside0 ((cN key ++ cN [0]).length = n1) := Aside0.mk (by rw [List.length_append, ← HM.out.1, hn1]; rfl)
      have HN2 : Aside0 ((cN (key ++ [0])).length = n1) := Aside0.mk (by rw [cN_append]; exact HN1.out)
      have HL0 : Aside0 (((cN key).length + 1) * 1 ≤ 140737488355328) := Aside0.mk (by have := HLN.out; rw [cN_length]; omega)
      have HOF4 : Aside0 (∀ (W : World) (A : Option Addr) (c g : Nat), Below w.heap.size w W → Kd.C (Kd.int .u8) W A n1 (cN (key ++ [0])) → W.heap[g]? = some (.cells [Value.slice A1 m1 k1].toArray 22 (0, 0)) →
          Calls Try.prog 18 #[.slice A n1 c, .slice (some ⟨g, 0, none⟩) 1 1] W fun e w' => e = .returned (.agg (ints .u8 (cN (macOf key text))).toArray) ∧ Below W.heap.size W w') := Aside0.mk (fun W A c g hb hC hg => by
        have hrows := rows_mk (w := W) [text] [.slice A1 m1 k1] hg (fun i x hx => by
          match i, hx with
          | 0, hx => injection hx with hx; subst hx; exact ⟨A1, k1, by rw [HM.out.2]; rfl, by rw [← HM.out.2]; exact HLN.out.2.2.2, Kd.C_below HR1.out hb⟩
          | k + 1, hx => cases hx) (show (1 : Nat) ≤ _ by decide)
        have h := of_calls A c (key ++ [0]) (some ⟨g, 0, none⟩) 1 [text] W (by rw [HN2.out]; exact hC) hrows (HBS.out.1.append (bs_of_mem (by decide))) (fun x hx => by rw [List.mem_singleton] at hx; subst hx; exact HBS.out.2) (by rw [List.length_append]; have := HLN.out; show key.length + 1 ≤ _; omega) (show (1 : Nat) ≤ 30 by decide) (fun x hx => by rw [List.mem_singleton] at hx; subst hx; have := HLN.out; omega)
        rw [flat1, HN2.out, mac_pad key text HK63.out] at h
        exact h)
      clear h63 hn1
      refine start_ (n := 17) (S := fun w' => Below w.heap.size w w' ∧ Arr .u8 25 w' gd (cN (macOf key text))) (ds := []) #[false, false, false, false, false, false, false, false, false, false, false, false, false, false, false, false, false] (by kernel_rfl) rfl rfl ⟨HB11.out.drew, HA11.out.drew⟩ (fun hHeld => ?_)
      refine pure_ (i := 0) (N := some 55) (v := ?_) (a' := ?_) #[true, false, false, false, false, false, false, false, false, false, false, false, false, false, false, false, false] rfl rfl (by kernel_rfl) (fun _ _ _ h => h) (Or.inl ⟨by rfl, ?_⟩) ?_ ?_
      rotate_left
      · intro w'
        go_simp
        with_reducible rfl
      rotate_left
      · simp only [Act.put, List.setIfInBounds_toArray, List.set_cons_zero, List.set_cons_succ, i64_w, i32_w]
        rfl
      refine pure_ (i := 1) (N := some 56) (v := ?_) (a' := ?_) #[true, true, false, false, false, false, false, false, false, false, false, false, false, false, false, false, false] rfl rfl (by kernel_rfl) (fun _ _ _ h => h) (Or.inl ⟨by rfl, ?_⟩) ?_ ?_
      rotate_left
      · intro w'
        go_simp
        with_reducible rfl
      rotate_left
      · simp only [Act.put, List.setIfInBounds_toArray, List.set_cons_zero, List.set_cons_succ, i64_w, i32_w]
        rfl
      refine pure_ (i := 2) (N := some 57) (v := ?_) (a' := ?_) #[true, true, true, false, false, false, false, false, false, false, false, false, false, false, false, false, false] rfl rfl (by kernel_rfl) (fun _ _ _ h => h) (Or.inl ⟨by rfl, ?_⟩) ?_ ?_
      rotate_left
      · intro w'
        go_simp
        with_reducible rfl
      rotate_left
      · simp only [Act.put, List.setIfInBounds_toArray, List.set_cons_zero, List.set_cons_succ, i64_w, i32_w]
        rfl
      refine pure_ (i := 3) (N := some 58) (v := ?_) (a' := ?_) #[true, true, true, true, false, false, false, false, false, false, false, false, false, false, false, false, false] rfl rfl (by kernel_rfl) (fun _ _ _ h => h) (Or.inl ⟨by rfl, ?_⟩) ?_ ?_
      rotate_left
      · intro w'
        go_simp
        with_reducible rfl
      rotate_left
      · simp only [Act.put, List.setIfInBounds_toArray, List.set_cons_zero, List.set_cons_succ, i64_w, i32_w]
        rfl
      refine pure_ (i := 4) (N := some 59) (v := ?_) (a' := ?_) #[true, true, true, true, true, false, false, false, false, false, false, false, false, false, false, false, false] rfl rfl (by kernel_rfl) (fun _ _ _ h => h) (Or.inl ⟨by rfl, ?_⟩) ?_ ?_
      rotate_left
      · intro w'
        go_simp
        with_reducible rfl
      rotate_left
      · simp only [Act.put, List.setIfInBounds_toArray, List.set_cons_zero, List.set_cons_succ, i64_w, i32_w]
        rfl
      refine pure_ (i := 5) (N := some 60) (v := ?_) (a' := ?_) #[true, true, true, true, true, true, false, false, false, false, false, false, false, false, false, false, false] rfl rfl (by kernel_rfl) (fun _ _ _ h => h) (Or.inl ⟨by rfl, ?_⟩) ?_ ?_
      rotate_left
      · intro w'
        go_simp
        with_reducible rfl
      rotate_left
      · simp only [Act.put, List.setIfInBounds_toArray, List.set_cons_zero, List.set_cons_succ, i64_w, i32_w]
        rfl
      refine pure_ (i := 7) (N := some 62) (v := ?_) (a' := ?_) #[true, true, true, true, true, true, false, true, false, false, false, false, false, false, false, false, false] rfl rfl (by kernel_rfl) (fun _ _ _ h => h) (Or.inl ⟨by rfl, ?_⟩) ?_ ?_
      rotate_left
      · intro w'
        go_simp
        with_reducible rfl
      rotate_left
      · simp only [Act.put, List.setIfInBounds_toArray, List.set_cons_zero, List.set_cons_succ, i64_w, i32_w]
        rfl
      refine pure_ (i := 10) (N := some 65) (v := ?_) (a' := ?_) #[true, true, true, true, true, true, false, true, false, false, true, false, false, false, false, false, false] rfl rfl (by kernel_rfl) (fun _ _ _ h => h) (Or.inl ⟨by rfl, ?_⟩) ?_ ?_
      rotate_left
      · intro w'
        go_simp
        with_reducible rfl
      rotate_left
      · simp only [Act.put, List.setIfInBounds_toArray, List.set_cons_zero, List.set_cons_succ, i64_w, i32_w]
        rfl
      refine take_ (i := 6) (N := some 61) (a' := ?_) #[true, true, true, true, true, true, true, true, false, false, true, false, false, false, false, false, false] rfl rfl (by kernel_rfl) (fun _ _ _ h => h) (yieldsIf_load_mid (by rfl) 25 (.tmp 8) rfl gd 0 rfl (ints .u8 (cN (macOf key text))) _ (fun w' hS => hS.2.range) rfl rfl (by rw [ints_length, mac_len32]; rfl)) hHeld ?_ ?_
      rotate_left
      · simp only [Act.put, List.setIfInBounds_toArray, List.set_cons_zero, List.set_cons_succ, i64_w, i32_w]
        rfl
      refine join_ (σ := Nat × Option Addr × Nat × Nat) 5 #[true, true, true, true, true, true, true, true, true, true, true, true, false, false, false, false, false] (fun s => [(63, .slice (some ⟨s.1, 0, none⟩) 1 1), (64, .slice s.2.1 n1 s.2.2.1), (66, .slice (some ⟨s.2.2.2, 0, none⟩) 1 1)]) (fun s w' => Below w.heap.size w w' ∧ Arr .u8 25 w' gd (cN (macOf key text)) ∧ Kd.C (Kd.int .u8) w' s.2.1 n1 (cN (key ++ [0])) ∧ w'.heap[s.2.2.2]? = some (.cells [Value.slice A1 m1 k1].toArray 22 (0, 0))) ?_ ?_
      rotate_left
      · intro hCont
        refine two_ (i := 8) (j := 11) (Ni := some 63) (Nj := some 66) #[true, true, true, true, true, true, true, true, true, false, true, false, false, false, false, false, false] #[true, true, true, true, true, true, true, true, false, false, true, true, false, false, false, false, false] rfl rfl rfl rfl (by kernel_rfl) (by decide) (by decide) (fun K hK => ?_) (fun K hK => ?_)
        · skip
          refine value_ (w1 := ?_) (v := ?_) (by rfl) rfl ?_ ?_
          rotate_left 2
          · go_simp
            constructor
            · rfl
            · rfl
          refine hK.out _ _ ⟨below_alloc hHeld.1 _, hHeld.2.alloc _⟩ (fun hHeld => ?_)
          clear hK K
          refine norm_ (a' := ?_) ?_ ?_
          rotate_left
          · show Act.put _ (some 63) _ = _
            simp only [Act.put, List.setIfInBounds_toArray, List.set_cons_zero, List.set_cons_succ, i64_w, i32_w]
            rfl
          refine two_ (i := 9) (j := 11) (Ni := some 64) (Nj := some 66) #[true, true, true, true, true, true, true, true, true, true, true, false, false, false, false, false, false] #[true, true, true, true, true, true, true, true, true, false, true, true, false, false, false, false, false] rfl rfl rfl rfl (by kernel_rfl) (by decide) (by decide) (fun K hK => ?_) (fun K hK => ?_)
          · skip
            have hbn : Below u1.heap.size u1 (World.alloc u1 (.cells #[.int .u8 0] 5)) := (below_alloc (Below.refl u1.heap.size u1) (.cells #[.int .u8 0] 5))
            have hOn : World.ownsRow (World.drew (World.alloc u1 (.cells #[.int .u8 0] 5))) w8.heap.size 5 1 (.slice A8 m0 k8) (cN key).length (nums .u8 (cN key)) := own_move HO11.out (fun q hq => hbn.block q (own_lt HO11.out q hq))
            have hZ : Kd.C (Kd.int .u8) (World.drew (World.alloc u1 (.cells #[.int .u8 0] 5))) (some ⟨u1.heap.size, 0, none⟩) 1 (cN [0]) := const_C u1 [0] 5 (0, 0) (by decide)
            refine Kd.R_append_rows_step (Kd.int .u8) (w0 := (World.drew (World.alloc u1 (.cells #[.int .u8 0] 5)))) (W := (World.drew (World.alloc u1 (.cells #[.int .u8 0] 5)))) w8.heap.size (by rfl) (.tmp 62) (.tmp 63) 22 5 (.int .u8 0) 1 rfl rfl rfl rfl (by decide) (by omega) (.slice A8 m0 k8) (cN key) (cN [0]) (some ⟨u1.heap.size, 0, none⟩) 1 1 (fun _ => True) (fun _ => False) rfl rfl (Kd.R_of_own hOn (fun _ _ => trivial)) hZ (fun _ _ h => h) (fun _ h => h.elim) (fun _ _ => trivial) (Below.refl _ _) (Nat.le_trans HS11.out hbn.size) HL0.out ?_
            intro v5 u5 ho hb hg hat
            obtain ⟨A64, k64, e64⟩ := own_slice (Kd.own_of_R ho)
            rw [HN1.out] at e64
            subst e64
            have hK64 := own_app (Kd.own_of_R ho)
            rw [HN2.out] at hK64
            clear hg hat ho hZ hOn hbn
            refine hK.out _ _ ⟨hHeld.1.trans (hb.mono HSW8.out), hHeld.2.below hb HG8'.out⟩ (fun hHeld => ?_)
            clear hK K
            refine norm_ (a' := ?_) ?_ ?_
            rotate_left
            · show Act.put _ (some 64) _ = _
              simp only [Act.put, List.setIfInBounds_toArray, List.set_cons_zero, List.set_cons_succ, i64_w, i32_w]
              rfl
            refine one_ (i := 11) (N := some 66) #[true, true, true, true, true, true, true, true, true, true, true, true, false, false, false, false, false] rfl rfl (by kernel_rfl) (by decide) (fun K hK => ?_)
            refine value_ (w1 := ?_) (v := ?_) (by rfl) rfl ?_ ?_
            rotate_left 2
            · go_simp
              constructor
              · rfl
              · rfl
            refine hK.out _ _ ⟨below_alloc hHeld.1 _, hHeld.2.alloc _⟩ (fun hHeld => ?_)
            clear hK K
            refine norm_ (a' := ?_) ?_ ?_
            rotate_left
            · show Act.put _ (some 66) _ = _
              simp only [Act.put, List.setIfInBounds_toArray, List.set_cons_zero, List.set_cons_succ, i64_w, i32_w]
              rfl
            exact norm_ (by simp only [putAll, Act.put, List.setIfInBounds_toArray, List.set_cons_zero, List.set_cons_succ]) (hCont ⟨u1.heap.size, A64, k64, u5.heap.size⟩ _ ⟨hHeld.1, hHeld.2, Kd.C_below hK64 (below_alloc (Below.refl _ _) _), heap_alloc_new u5 _⟩)
          · skip
            refine value_ (w1 := ?_) (v := ?_) (by rfl) rfl ?_ ?_
            rotate_left 2
            · go_simp
              constructor
              · rfl
              · rfl
            refine hK.out _ _ ⟨below_alloc hHeld.1 _, hHeld.2.alloc _⟩ (fun hHeld => ?_)
            clear hK K
            refine norm_ (a' := ?_) ?_ ?_
            rotate_left
            · show Act.put _ (some 66) _ = _
              simp only [Act.put, List.setIfInBounds_toArray, List.set_cons_zero, List.set_cons_succ, i64_w, i32_w]
              rfl
            refine one_ (i := 9) (N := some 64) #[true, true, true, true, true, true, true, true, true, true, true, true, false, false, false, false, false] rfl rfl (by kernel_rfl) (by decide) (fun K hK => ?_)
            have hbn : Below u1.heap.size u1 (World.alloc (World.alloc u1 (.cells #[.int .u8 0] 5)) (.cells #[.slice A1 m1 k1] 22)) := (below_alloc (below_alloc (Below.refl u1.heap.size u1) (.cells #[.int .u8 0] 5)) (.cells #[.slice A1 m1 k1] 22))
            have hOn : World.ownsRow (World.drew (World.alloc (World.alloc u1 (.cells #[.int .u8 0] 5)) (.cells #[.slice A1 m1 k1] 22))) w8.heap.size 5 1 (.slice A8 m0 k8) (cN key).length (nums .u8 (cN key)) := own_move HO11.out (fun q hq => hbn.block q (own_lt HO11.out q hq))
            have hZ : Kd.C (Kd.int .u8) (World.drew (World.alloc (World.alloc u1 (.cells #[.int .u8 0] 5)) (.cells #[.slice A1 m1 k1] 22))) (some ⟨u1.heap.size, 0, none⟩) 1 (cN [0]) := Kd.C_below (w := World.alloc u1 (.cells #[.int .u8 0] 5)) (const_C u1 [0] 5 (0, 0) (by decide)) (below_alloc (Below.refl (World.heap (World.alloc u1 (.cells #[.int .u8 0] 5))).size (World.alloc u1 (.cells #[.int .u8 0] 5))) (.cells #[.slice A1 m1 k1] 22)).drew
            refine Kd.R_append_rows_step (Kd.int .u8) (w0 := (World.drew (World.alloc (World.alloc u1 (.cells #[.int .u8 0] 5)) (.cells #[.slice A1 m1 k1] 22)))) (W := (World.drew (World.alloc (World.alloc u1 (.cells #[.int .u8 0] 5)) (.cells #[.slice A1 m1 k1] 22)))) w8.heap.size (by rfl) (.tmp 62) (.tmp 63) 22 5 (.int .u8 0) 1 rfl rfl rfl rfl (by decide) (by omega) (.slice A8 m0 k8) (cN key) (cN [0]) (some ⟨u1.heap.size, 0, none⟩) 1 1 (fun _ => True) (fun _ => False) rfl rfl (Kd.R_of_own hOn (fun _ _ => trivial)) hZ (fun _ _ h => h) (fun _ h => h.elim) (fun _ _ => trivial) (Below.refl _ _) (Nat.le_trans HS11.out hbn.size) HL0.out ?_
            intro v5 u5 ho hb hg hat
            obtain ⟨A64, k64, e64⟩ := own_slice (Kd.own_of_R ho)
            rw [HN1.out] at e64
            subst e64
            have hK64 := own_app (Kd.own_of_R ho)
            rw [HN2.out] at hK64
            have hc5 : World.heap (World.drew (World.alloc (World.alloc u1 (.cells #[.int .u8 0] 5)) (.cells #[.slice A1 m1 k1] 22))) = World.heap (World.alloc (World.alloc u1 (.cells #[.int .u8 0] 5)) (.cells #[.slice A1 m1 k1] 22)) := rfl
            have hcw : (World.heap (World.alloc (World.alloc u1 (.cells #[.int .u8 0] 5)) (.cells #[.slice A1 m1 k1] 22)))[u1.heap.size + 1]? = some (.cells [Value.slice A1 m1 k1].toArray 22 (0, 0)) := (by have h := heap_alloc_new (World.alloc u1 (.cells #[.int .u8 0] 5)) (.cells #[.slice A1 m1 k1] 22); rw [alloc_size] at h; exact h)
            have hcell : u5.heap[u1.heap.size + 1]? = some (.cells [Value.slice A1 m1 k1].toArray 22 (0, 0)) := (hg.block (u1.heap.size + 1) (grown_lt hcw) (fun e => by have h1 := own_lt HO11.out (u1.heap.size + 1) e.symm; omega)).trans hcw
            clear hc5 hcw
            clear hg hat ho hZ hOn hbn
            refine hK.out _ _ ⟨hHeld.1.trans (hb.mono HSW8.out), hHeld.2.below hb HG8'.out⟩ (fun hHeld => ?_)
            clear hK K
            refine norm_ (a' := ?_) ?_ ?_
            rotate_left
            · show Act.put _ (some 64) _ = _
              simp only [Act.put, List.setIfInBounds_toArray, List.set_cons_zero, List.set_cons_succ, i64_w, i32_w]
              rfl
            exact norm_ (by simp only [putAll, Act.put, List.setIfInBounds_toArray, List.set_cons_zero, List.set_cons_succ]) (hCont ⟨u1.heap.size, A64, k64, u1.heap.size + 1⟩ _ ⟨hHeld.1, hHeld.2, hK64, hcell⟩)
        · skip
          refine value_ (w1 := ?_) (v := ?_) (by rfl) rfl ?_ ?_
          rotate_left 2
          · go_simp
            constructor
            · rfl
            · rfl
          refine hK.out _ _ ⟨below_alloc hHeld.1 _, hHeld.2.alloc _⟩ (fun hHeld => ?_)
          clear hK K
          refine norm_ (a' := ?_) ?_ ?_
          rotate_left
          · show Act.put _ (some 66) _ = _
            simp only [Act.put, List.setIfInBounds_toArray, List.set_cons_zero, List.set_cons_succ, i64_w, i32_w]
            rfl
          refine one_ (i := 8) (N := some 63) #[true, true, true, true, true, true, true, true, true, false, true, true, false, false, false, false, false] rfl rfl (by kernel_rfl) (by decide) (fun K hK => ?_)
          refine value_ (w1 := ?_) (v := ?_) (by rfl) rfl ?_ ?_
          rotate_left 2
          · go_simp
            constructor
            · rfl
            · rfl
          refine hK.out _ _ ⟨below_alloc hHeld.1 _, hHeld.2.alloc _⟩ (fun hHeld => ?_)
          clear hK K
          refine norm_ (a' := ?_) ?_ ?_
          rotate_left
          · show Act.put _ (some 63) _ = _
            simp only [Act.put, List.setIfInBounds_toArray, List.set_cons_zero, List.set_cons_succ, i64_w, i32_w]
            rfl
          refine one_ (i := 9) (N := some 64) #[true, true, true, true, true, true, true, true, true, true, true, true, false, false, false, false, false] rfl rfl (by kernel_rfl) (by decide) (fun K hK => ?_)
          have hbn : Below u1.heap.size u1 (World.alloc (World.alloc u1 (.cells #[.slice A1 m1 k1] 22)) (.cells #[.int .u8 0] 5)) := (below_alloc (below_alloc (Below.refl u1.heap.size u1) (.cells #[.slice A1 m1 k1] 22)) (.cells #[.int .u8 0] 5))
          have hOn : World.ownsRow (World.drew (World.alloc (World.alloc u1 (.cells #[.slice A1 m1 k1] 22)) (.cells #[.int .u8 0] 5))) w8.heap.size 5 1 (.slice A8 m0 k8) (cN key).length (nums .u8 (cN key)) := own_move HO11.out (fun q hq => hbn.block q (own_lt HO11.out q hq))
          have hZ : Kd.C (Kd.int .u8) (World.drew (World.alloc (World.alloc u1 (.cells #[.slice A1 m1 k1] 22)) (.cells #[.int .u8 0] 5))) (some ⟨u1.heap.size + 1, 0, none⟩) 1 (cN [0]) := (by have h := const_C (World.alloc u1 (.cells #[.slice A1 m1 k1] 22)) [0] 5 (0, 0) (by decide); rw [alloc_size] at h; exact h)
          refine Kd.R_append_rows_step (Kd.int .u8) (w0 := (World.drew (World.alloc (World.alloc u1 (.cells #[.slice A1 m1 k1] 22)) (.cells #[.int .u8 0] 5)))) (W := (World.drew (World.alloc (World.alloc u1 (.cells #[.slice A1 m1 k1] 22)) (.cells #[.int .u8 0] 5)))) w8.heap.size (by rfl) (.tmp 62) (.tmp 63) 22 5 (.int .u8 0) 1 rfl rfl rfl rfl (by decide) (by omega) (.slice A8 m0 k8) (cN key) (cN [0]) (some ⟨u1.heap.size + 1, 0, none⟩) 1 1 (fun _ => True) (fun _ => False) rfl rfl (Kd.R_of_own hOn (fun _ _ => trivial)) hZ (fun _ _ h => h) (fun _ h => h.elim) (fun _ _ => trivial) (Below.refl _ _) (Nat.le_trans HS11.out hbn.size) HL0.out ?_
          intro v5 u5 ho hb hg hat
          obtain ⟨A64, k64, e64⟩ := own_slice (Kd.own_of_R ho)
          rw [HN1.out] at e64
          subst e64
          have hK64 := own_app (Kd.own_of_R ho)
          rw [HN2.out] at hK64
          have hc5 : World.heap (World.drew (World.alloc (World.alloc u1 (.cells #[.slice A1 m1 k1] 22)) (.cells #[.int .u8 0] 5))) = World.heap (World.alloc (World.alloc u1 (.cells #[.slice A1 m1 k1] 22)) (.cells #[.int .u8 0] 5)) := rfl
          have hcw : (World.heap (World.alloc (World.alloc u1 (.cells #[.slice A1 m1 k1] 22)) (.cells #[.int .u8 0] 5)))[u1.heap.size]? = some (.cells [Value.slice A1 m1 k1].toArray 22 (0, 0)) := ((below_alloc (Below.refl (World.heap (World.alloc u1 (.cells #[.slice A1 m1 k1] 22))).size (World.alloc u1 (.cells #[.slice A1 m1 k1] 22))) (.cells #[.int .u8 0] 5)).block u1.heap.size (by rw [alloc_size]; omega)).trans (heap_alloc_new u1 (.cells #[.slice A1 m1 k1] 22))
          have hcell : u5.heap[u1.heap.size]? = some (.cells [Value.slice A1 m1 k1].toArray 22 (0, 0)) := (hg.block (u1.heap.size) (grown_lt hcw) (fun e => by have h1 := own_lt HO11.out (u1.heap.size) e.symm; omega)).trans hcw
          clear hc5 hcw
          clear hg hat ho hZ hOn hbn
          refine hK.out _ _ ⟨hHeld.1.trans (hb.mono HSW8.out), hHeld.2.below hb HG8'.out⟩ (fun hHeld => ?_)
          clear hK K
          refine norm_ (a' := ?_) ?_ ?_
          rotate_left
          · show Act.put _ (some 64) _ = _
            simp only [Act.put, List.setIfInBounds_toArray, List.set_cons_zero, List.set_cons_succ, i64_w, i32_w]
            rfl
          exact norm_ (by simp only [putAll, Act.put, List.setIfInBounds_toArray, List.set_cons_zero, List.set_cons_succ]) (hCont ⟨u1.heap.size + 1, A64, k64, u1.heap.size⟩ _ ⟨hHeld.1, hHeld.2, hK64, hcell⟩)
      rintro ⟨x63, A64, k64, x66⟩ w5 ⟨hf1, hf2, hf3, hf4⟩
      have hHeld : Below w.heap.size w w5 ∧ Arr .u8 25 w5 gd (cN (macOf key text)) := ⟨hf1, hf2⟩
      refine norm_ (a' := ?_) ?_ ?_
      rotate_left
      · simp only [putAll, Act.put, List.setIfInBounds_toArray, List.set_cons_zero, List.set_cons_succ]
        rfl
      refine one_ (i := 12) (N := some 67) #[true, true, true, true, true, true, true, true, true, true, true, true, true, false, false, false, false] rfl rfl (by kernel_rfl) (by decide) (fun K hK => ?_)
      refine goes_ Try.func18 (by kernel_rfl) rfl #[.slice A64 n1 k64, .slice (some ⟨x66, 0, none⟩) 1 1] (by rfl) rfl rfl (by simp only [List.map_toArray, List.map_cons, List.map_nil]; rfl) ?_
      with_reducible refine (HOF4.out _ _ _ _ hHeld.1 hf3 hf4).mono ?_
      rintro e u7 ⟨rfl, hB7⟩
      refine ⟨_, rfl, ?_⟩
      refine hK.out _ _ ⟨hHeld.1.trans (hB7.mono hHeld.1.size), hHeld.2.below hB7 hHeld.2.size⟩ (fun hHeld => ?_)
      clear hK K
      refine norm_ (a' := ?_) ?_ ?_
      rotate_left
      · show Act.put _ (some 67) _ = _
        simp only [Act.put, List.setIfInBounds_toArray, List.set_cons_zero, List.set_cons_succ, i64_w, i32_w]
        rfl
      refine pure_ (i := 13) (N := some 68) (v := ?_) (a' := ?_) #[true, true, true, true, true, true, true, true, true, true, true, true, true, true, false, false, false] rfl rfl (by kernel_rfl) (fun _ _ _ h => h) (Or.inl ⟨by rfl, ?_⟩) ?_ ?_
      rotate_left
      · intro w'
        go_simp
        with_reducible rfl
      rotate_left
      · simp only [Act.put, List.setIfInBounds_toArray, List.set_cons_zero, List.set_cons_succ, i64_w, i32_w]
        rfl
      refine pure_ (i := 14) (N := some 69) (v := ?_) (a' := ?_) #[true, true, true, true, true, true, true, true, true, true, true, true, true, true, true, false, false] rfl rfl (by kernel_rfl) (fun _ _ _ h => h) (Or.inl ⟨by rfl, ?_⟩) ?_ ?_
      rotate_left
      · intro w'
        go_simp
        with_reducible rfl
      rotate_left
      · simp only [Act.put, List.setIfInBounds_toArray, List.set_cons_zero, List.set_cons_succ, i64_w, i32_w]
        rfl
      refine pure_ (i := 15) (N := some 70) (v := ?_) (a' := ?_) #[true, true, true, true, true, true, true, true, true, true, true, true, true, true, true, true, false] rfl rfl (by kernel_rfl) (fun _ _ _ h => h) (Or.inl ⟨by rfl, ?_⟩) ?_ ?_
      rotate_left
      · intro w'
        go_simp
        with_reducible rfl
      rotate_left
      · simp only [Act.put, List.setIfInBounds_toArray, List.set_cons_zero, List.set_cons_succ, i64_w, i32_w]
        rfl
      refine pure_ (i := 16) (N := some 6) (v := ?_) (a' := ?_) #[true, true, true, true, true, true, true, true, true, true, true, true, true, true, true, true, true] rfl rfl (by kernel_rfl) (fun _ _ _ h => h) (Or.inl ⟨by rfl, ?_⟩) ?_ ?_
      rotate_left
      · intro w'
        go_simp
        with_reducible rfl
      rotate_left
      · simp only [Act.put, List.setIfInBounds_toArray, List.set_cons_zero, List.set_cons_succ, i64_w, i32_w]
        rfl
      refine done_ (by kernel_rfl) ?_
      go_wp2
      go_ret
      exact ⟨rfl, hHeld.1⟩
    · have c63 : (63 : Int) < (m0 : Int) := by omega
      clear h63
      refine start_ (n := 17) (S := fun w' => Below w.heap.size w w' ∧ Arr .u8 25 w' gd (cN (macOf key text))) (ds := []) #[false, false, false, false, false, false, false, false, false, false, false, false, false, false, false, false, false] (by kernel_rfl) rfl rfl ⟨HB11.out.drew, HA11.out.drew⟩ (fun hHeld => ?_)
      refine pure_ (i := 0) (N := some 55) (v := ?_) (a' := ?_) #[true, false, false, false, false, false, false, false, false, false, false, false, false, false, false, false, false] rfl rfl (by kernel_rfl) (fun _ _ _ h => h) (Or.inl ⟨by rfl, ?_⟩) ?_ ?_
      rotate_left
      · intro w'
        go_simp
        with_reducible rfl
      rotate_left
      · simp only [Act.put, List.setIfInBounds_toArray, List.set_cons_zero, List.set_cons_succ, i64_w, i32_w]
        rfl
      refine pure_ (i := 1) (N := some 56) (v := ?_) (a' := ?_) #[true, true, false, false, false, false, false, false, false, false, false, false, false, false, false, false, false] rfl rfl (by kernel_rfl) (fun _ _ _ h => h) (Or.inl ⟨by rfl, ?_⟩) ?_ ?_
      rotate_left
      · intro w'
        go_simp
        with_reducible rfl
      rotate_left
      · simp only [Act.put, List.setIfInBounds_toArray, List.set_cons_zero, List.set_cons_succ, i64_w, i32_w]
        rfl
      refine pure_ (i := 2) (N := some 57) (v := ?_) (a' := ?_) #[true, true, true, false, false, false, false, false, false, false, false, false, false, false, false, false, false] rfl rfl (by kernel_rfl) (fun _ _ _ h => h) (Or.inl ⟨by rfl, ?_⟩) ?_ ?_
      rotate_left
      · intro w'
        go_simp
        with_reducible rfl
      rotate_left
      · simp only [Act.put, List.setIfInBounds_toArray, List.set_cons_zero, List.set_cons_succ, i64_w, i32_w]
        rfl
      refine pure_ (i := 3) (N := some 58) (v := ?_) (a' := ?_) #[true, true, true, true, false, false, false, false, false, false, false, false, false, false, false, false, false] rfl rfl (by kernel_rfl) (fun _ _ _ h => h) (Or.inl ⟨by rfl, ?_⟩) ?_ ?_
      rotate_left
      · intro w'
        go_simp
        with_reducible rfl
      rotate_left
      · simp only [Act.put, List.setIfInBounds_toArray, List.set_cons_zero, List.set_cons_succ, i64_w, i32_w]
        rfl
      refine pure_ (i := 4) (N := some 59) (v := ?_) (a' := ?_) #[true, true, true, true, true, false, false, false, false, false, false, false, false, false, false, false, false] rfl rfl (by kernel_rfl) (fun _ _ _ h => h) (Or.inl ⟨by rfl, ?_⟩) ?_ ?_
      rotate_left
      · intro w'
        go_simp
        with_reducible rfl
      rotate_left
      · simp only [Act.put, List.setIfInBounds_toArray, List.set_cons_zero, List.set_cons_succ, i64_w, i32_w]
        rfl
      refine pure_ (i := 5) (N := some 60) (v := ?_) (a' := ?_) #[true, true, true, true, true, true, false, false, false, false, false, false, false, false, false, false, false] rfl rfl (by kernel_rfl) (fun _ _ _ h => h) (Or.inl ⟨by rfl, ?_⟩) ?_ ?_
      rotate_left
      · intro w'
        go_simp
        with_reducible rfl
      rotate_left
      · simp only [Act.put, List.setIfInBounds_toArray, List.set_cons_zero, List.set_cons_succ, i64_w, i32_w]
        rfl
      refine pure_ (i := 6) (N := some 61) (v := undef) (a' := ?_) #[true, true, true, true, true, true, true, false, false, false, false, false, false, false, false, false, false] rfl rfl (by kernel_rfl) (fun _ _ _ h => h) (Or.inr ⟨by rfl, rfl⟩) ?_ ?_
      rotate_left
      · simp only [Act.put, List.setIfInBounds_toArray, List.set_cons_zero, List.set_cons_succ, i64_w, i32_w]
        rfl
      refine pure_ (i := 7) (N := some 62) (v := undef) (a' := ?_) #[true, true, true, true, true, true, true, true, false, false, false, false, false, false, false, false, false] rfl rfl (by kernel_rfl) (fun _ _ _ h => h) (Or.inr ⟨by rfl, rfl⟩) ?_ ?_
      rotate_left
      · simp only [Act.put, List.setIfInBounds_toArray, List.set_cons_zero, List.set_cons_succ, i64_w, i32_w]
        rfl
      refine pure_ (i := 8) (N := some 63) (v := undef) (a' := ?_) #[true, true, true, true, true, true, true, true, true, false, false, false, false, false, false, false, false] rfl rfl (by kernel_rfl) (fun _ _ _ h => h) (Or.inr ⟨by rfl, rfl⟩) ?_ ?_
      rotate_left
      · simp only [Act.put, List.setIfInBounds_toArray, List.set_cons_zero, List.set_cons_succ, i64_w, i32_w]
        rfl
      refine pure_ (i := 9) (N := some 64) (v := undef) (a' := ?_) #[true, true, true, true, true, true, true, true, true, true, false, false, false, false, false, false, false] rfl rfl (by kernel_rfl) (fun _ _ _ h => h) (Or.inr ⟨by rfl, rfl⟩) ?_ ?_
      rotate_left
      · simp only [Act.put, List.setIfInBounds_toArray, List.set_cons_zero, List.set_cons_succ, i64_w, i32_w]
        rfl
      refine pure_ (i := 10) (N := some 65) (v := undef) (a' := ?_) #[true, true, true, true, true, true, true, true, true, true, true, false, false, false, false, false, false] rfl rfl (by kernel_rfl) (fun _ _ _ h => h) (Or.inr ⟨by rfl, rfl⟩) ?_ ?_
      rotate_left
      · simp only [Act.put, List.setIfInBounds_toArray, List.set_cons_zero, List.set_cons_succ, i64_w, i32_w]
        rfl
      refine pure_ (i := 11) (N := some 66) (v := undef) (a' := ?_) #[true, true, true, true, true, true, true, true, true, true, true, true, false, false, false, false, false] rfl rfl (by kernel_rfl) (fun _ _ _ h => h) (Or.inr ⟨by rfl, rfl⟩) ?_ ?_
      rotate_left
      · simp only [Act.put, List.setIfInBounds_toArray, List.set_cons_zero, List.set_cons_succ, i64_w, i32_w]
        rfl
      refine pure_ (i := 12) (N := some 67) (v := undef) (a' := ?_) #[true, true, true, true, true, true, true, true, true, true, true, true, true, false, false, false, false] rfl rfl (by kernel_rfl) (fun _ _ _ h => h) (Or.inr ⟨by rfl, rfl⟩) ?_ ?_
      rotate_left
      · simp only [Act.put, List.setIfInBounds_toArray, List.set_cons_zero, List.set_cons_succ, i64_w, i32_w]
        rfl
      refine pure_ (i := 13) (N := some 68) (v := undef) (a' := ?_) #[true, true, true, true, true, true, true, true, true, true, true, true, true, true, false, false, false] rfl rfl (by kernel_rfl) (fun _ _ _ h => h) (Or.inr ⟨by rfl, rfl⟩) ?_ ?_
      rotate_left
      · simp only [Act.put, List.setIfInBounds_toArray, List.set_cons_zero, List.set_cons_succ, i64_w, i32_w]
        rfl
      refine pure_ (i := 14) (N := some 69) (v := ?_) (a' := ?_) #[true, true, true, true, true, true, true, true, true, true, true, true, true, true, true, false, false] rfl rfl (by kernel_rfl) (fun _ _ _ h => h) (Or.inl ⟨by rfl, ?_⟩) ?_ ?_
      rotate_left
      · intro w'
        go_simp
        with_reducible rfl
      rotate_left
      · simp only [Act.put, List.setIfInBounds_toArray, List.set_cons_zero, List.set_cons_succ, i64_w, i32_w]
        rfl
      refine pure_ (i := 15) (N := some 70) (v := ?_) (a' := ?_) #[true, true, true, true, true, true, true, true, true, true, true, true, true, true, true, true, false] rfl rfl (by kernel_rfl) (fun _ _ _ h => h) (Or.inl ⟨by rfl, ?_⟩) ?_ ?_
      rotate_left
      · intro w'
        go_simp
        with_reducible rfl
      rotate_left
      · simp only [Act.put, List.setIfInBounds_toArray, List.set_cons_zero, List.set_cons_succ, i64_w, i32_w]
        rfl
      refine pure_ (i := 16) (N := some 6) (v := ?_) (a' := ?_) #[true, true, true, true, true, true, true, true, true, true, true, true, true, true, true, true, true] rfl rfl (by kernel_rfl) (fun _ _ _ h => h) (Or.inl ⟨by rfl, ?_⟩) ?_ ?_
      rotate_left
      · intro w'
        go_simp
        with_reducible rfl
      rotate_left
      · simp only [Act.put, List.setIfInBounds_toArray, List.set_cons_zero, List.set_cons_succ, i64_w, i32_w]
        rfl
      refine done_ (by kernel_rfl) ?_
      go_wp2
      go_ret
      exact ⟨rfl, hHeld.1⟩
  · have hbig' : (decide (1000 < (m0 : Int)) || decide (1000 < (m1 : Int)) || decide (at_ < 0) || decide ((m1 : Int) < at_)) = true := by simp; omega
    clear hbig hc1
    go_enter Try.func8, Try.ntmps8
    go_wp2_with fail
    refine (up4_calls w).mono ?_
    rintro e w1 ⟨rfl, hB1⟩
    have HBa : Aside0 (Below w.heap.size w w1) := Aside0.mk hB1
    clear hB1
    go_wp2_with fail
    all_goals (go_ret; exact ⟨rfl, HBa.out⟩)
end Go.Proofs.Ytinjhmmbndonhaa.PShaSums
