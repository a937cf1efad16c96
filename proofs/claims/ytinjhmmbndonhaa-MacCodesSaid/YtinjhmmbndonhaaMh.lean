/- The walk of MacCodes. -/
import Derived.Test.YtinjhmmbndonhaaMg
namespace Go.Proofs.Ytinjhmmbndonhaa.PShaSums
open Go.RowKit Go.Proofs.YtinjhmmbndonhaaW.PrintWords Go.Proofs.YtinjhmmbndonhaaW.PrintLast Go.Proofs.YtinjhmmbndonhaaW.PrintMore Go.Proofs.Ytinjhmmbndonhaa.Sha Go.Proofs.Ytinjhmmbndonhaa.Arr
attribute [local go_sem] max2_int min2_int max_two min_two max_three min_three max_four min_four
attribute [local go_sem high] u8_w
set_option linter.unusedVariables false
set_option linter.unusedSimpArgs false
attribute [local go_sem high] eqlM neqM
theorem str_back (a : List Nat) (h : Bs a) : ((strOfNums (cN a)).data.toList.map (·.toNat)) = a := by
  rw [strOfNums_data, cN, List.map_map, List.map_map]
  conv => rhs; rw [← List.map_id a]
  apply List.map_congr_left
  intro x hx
  have hx2 : x < 256 := by
    obtain ⟨i, hi, e⟩ := List.getElem_of_mem hx
    have := h i
    rw [List.getD_eq_getElem?_getD, List.getElem?_eq_getElem hi] at this
    rw [← e]; exact this
  show (UInt8.ofNat ((x : Int)).toNat).toNat = x
  rw [Int.toNat_natCast]
  simp
  omega
theorem bytes_beq (s t : ByteArray) : (s == t) = decide (s = t) := by
  cases s with
  | mk x =>
    cases t with
    | mk y =>
      rw [Bool.eq_iff_iff, decide_eq_true_eq]
      show (x == y) = true ↔ _
      rw [beq_iff_eq]
      constructor
      · rintro rfl; rfl
      · intro h; injection h
theorem str_inj (a b : List Nat) (ha : Bs a) (hb : Bs b) : (strOfNums (cN a) = strOfNums (cN b)) ↔ a = b := by
  constructor
  · intro h
    rw [← str_back a ha, ← str_back b hb, h]
  · rintro rfl; rfl
set_option maxHeartbeats 8000000 in
set_option maxRecDepth 100000 in
theorem mcodes_calls (A0 : Option Addr) (k0 : Nat) (key : List Nat) (A1 : Option Addr) (k1 : Nat) (l : List (List Nat)) (A2 : Option Addr) (k2 : Nat) (a : List Nat) (A3 : Option Addr) (k3 : Nat) (b : List Nat) (w : World)
    (hr0 : Kd.C (Kd.int .u8) w A0 (cN key).length (cN key)) (hr1 : Kd.C (Kd.slice 5 (Kd.int .u8)) w A1 (l.map cN).length (l.map cN)) (hr2 : Kd.C (Kd.int .u8) w A2 (cN a).length (cN a)) (hr3 : Kd.C (Kd.int .u8) w A3 (cN b).length (cN b))
    (hb0 : Bs key) (hb1 : ∀ x ∈ l, Bs x) (hb2 : Bs a) (hb3 : Bs b) :
    Calls Try.prog 7 #[.slice A0 (cN key).length k0, .slice A1 (l.map cN).length k1, .slice A2 (cN a).length k2, .slice A3 (cN b).length k3] w fun e w' => e = .returned (.bool true) ∧ Below w.heap.size w w' := by
  obtain ⟨m0, hm0⟩ : ∃ m, m = (cN key).length := ⟨_, rfl⟩
  obtain ⟨m1, hm1⟩ : ∃ m, m = (l.map cN).length := ⟨_, rfl⟩
  obtain ⟨m2, hm2⟩ : ∃ m, m = (cN a).length := ⟨_, rfl⟩
  obtain ⟨m3, hm3⟩ : ∃ m, m = (cN b).length := ⟨_, rfl⟩
  have HR := Aside0.mk (And.intro hr0 (And.intro hr1 (And.intro hr2 hr3)))
  have HBS := Aside0.mk (And.intro hb0 (And.intro hb1 (And.intro hb2 hb3)))
  have HM := Aside0.mk (And.intro hm0 (And.intro hm1 (And.intro hm2 hm3)))
  have HMN : Aside0 (m0 = key.length ∧ m1 = l.length ∧ m2 = a.length ∧ m3 = b.length) := Aside0.mk ⟨by rw [hm0, cN_length], by rw [hm1, List.length_map], by rw [hm2, cN_length], by rw [hm3, cN_length]⟩
  rw [← hm0, ← hm1, ← hm2, ← hm3]
  clear hr0 hr1 hr2 hr3 hb0 hb1 hb2 hb3 hm0 hm1 hm2 hm3
  by_cases hbig : m0 ≤ 1000 ∧ m1 ≤ 30 ∧ m2 ≤ 1000 ∧ m3 ≤ 1000
  · obtain ⟨l0, l1, l2, l3⟩ := hbig
    have p0 : (m0 : Int) ≤ 1000 := by omega
    have p1 : (m1 : Int) ≤ 30 := by omega
    have p2 : (m2 : Int) ≤ 1000 := by omega
    have p3 : (m3 : Int) ≤ 1000 := by omega
    have HLN : Aside0 (key.length ≤ 1000 ∧ l.length ≤ 30 ∧ a.length ≤ 1000 ∧ b.length ≤ 1000) := Aside0.mk (by have := HMN.out; omega)
    clear l0 l1 l2 l3
    go_enter Try.func7, Try.ntmps7
    go_wp2_with fail
    refine (up4_calls w).mono ?_
    rintro e w1 ⟨rfl, hB1⟩
    have HB1 := Aside0.mk hB1
    clear hB1
    go_wp2
    go_loopw [10, 11] (fun va vi wr => ∃ i : Nat, i ≤ m1 ∧ vi = .int .i64 (i : Int) ∧ Aside0 (∀ x ∈ l.take i, x.length ≤ 1000) ∧ Aside0 (wr.ownsRow w1.heap.size 5 1 va (cN (pre l i)).length (nums .u8 (cN (pre l i)))) ∧ Aside0 (Below w1.heap.size w1 wr))
      (fun _ vi _ => m1 - (intOf vi).toNat)
    case atStart => exact ⟨0, Nat.zero_le _, rfl, Aside0.mk (fun x hx => by cases hx), Aside0.mk (own_nil _), Aside0.mk (Below.refl _ _)⟩
    case round =>
      obtain ⟨i, hi, rfl, HLE, HO, HBr⟩ := hrel
      obtain ⟨A5, k5, rfl⟩ := own_slice HO.out
      obtain ⟨m5, hm5⟩ : ∃ m, m = (cN (pre l i)).length := ⟨_, rfl⟩
      have HM5 : Aside0 (m5 = (pre l i).length ∧ m5 = (cN (pre l i)).length) := Aside0.mk ⟨by rw [hm5, cN_length], hm5⟩
      rw [← hm5]
      have HO5 : Aside0 (wr.ownsRow w1.heap.size 5 1 (.slice A5 m5 k5) (cN (pre l i)).length (nums .u8 (cN (pre l i)))) := Aside0.mk (by rw [hm5]; exact HO.out)
      have HBW : Aside0 (Below w.heap.size w wr) := Aside0.mk (HB1.out.trans (HBr.out.mono HB1.out.size))
      have HPL : Aside0 (i ≤ l.length → (pre l i).length ≤ 1000 * i) := Aside0.mk (fun hil => by
        have h := pre_le (l.take i) 1000 HLE.out i (by rw [List.length_take]; omega)
        rwa [show pre (l.take i) i = pre l i by unfold pre; rw [List.take_take, Nat.min_self]] at h)
      clear hm5 HO
      by_cases hx : i < m1
      · have t1 : (i : Int) < (m1 : Int) := by omega
        have HIL : Aside0 (i < l.length) := Aside0.mk (by have := HMN.out; omega)
        have HIM := Aside0.mk hx
        obtain ⟨ad, A6, c6, eA, hc, hle, hC⟩ := rows_cell HR.out.2.1 i HIL.out
        cases eA
        obtain ⟨x, hX⟩ : ∃ x, l.getD i [] = x := ⟨_, rfl⟩
        have HPRE : Aside0 (pre l i ++ x = pre l (i + 1)) := Aside0.mk (by rw [← hX]; exact pre_succ l i HIL.out)
        have HTK : Aside0 (l.take (i + 1) = l.take i ++ [x]) := Aside0.mk (by rw [List.take_add_one, ← hX, List.getD_eq_getElem?_getD, List.getElem?_eq_getElem HIL.out]; rfl)
        rw [hX] at hc hle hC
        clear hX
        have hcr := (HBW.out.cell (p := ad.add i) (World.block_lt_of_cell? w _ hc)).trans hc
        obtain ⟨mx, hmx⟩ : ∃ m, m = (cN x).length := ⟨_, rfl⟩
        have HC := Aside0.mk hC
        rw [← hmx] at hcr
        have HMX : Aside0 (mx = (cN x).length ∧ mx = x.length) := Aside0.mk ⟨hmx, by rw [hmx, cN_length]⟩
        clear hmx hle hC hc
        by_cases hxl : mx ≤ 1000
        · have t2 : (mx : Int) ≤ 1000 := by omega
          have HXL := Aside0.mk hxl
          have HQ9 : Aside0 (ReadsInt wr .u8 A6 mx (cN x)) := Aside0.mk (by rw [HMX.out.1]; exact reads_of .u8 (Kd.C_below HC.out HBW.out))
          have hl9 : ((cN (pre l i)).length + mx) * 1 ≤ 140737488355328 := by have := HPL.out (Nat.le_of_lt HIL.out); have := HLN.out.2.1; have := HIL.out; rw [cN_length]; omega
          clear hxl hx hi
          go_wp2_with (first
            | ((with_reducible refine gate_dst (N := 50) rfl ?_); refine print_append_row (w0 := wr) w1.heap.size rfl (.tmp 45) (.tmp 49) 22 5 .u8 1 rfl rfl rfl (by omega) (.slice A5 m5 k5) (cN (pre l i)) (cN x) A6 mx c6 rfl rfl HO5.out HQ9.out (Below.refl _ _) HBr.out.size hl9 ?_; intro va wa ho hb hg hat; have HOa := Aside0.mk ho; have HPa := Aside0.mk hb; clear ho hb hg hat hcr hl9))
          have hoa := HOa.out
          rw [← cN_append, HPRE.out] at hoa
          have v9 := inc30 (by have := HIL.out; have := HLN.out.2.1; omega : i < 30)
          try rw [v9]
          refine ⟨⟨i + 1, HIM.out, by rw [Int.natCast_add]; rfl, Aside0.mk ?_, Aside0.mk hoa, Aside0.mk (HBr.out.trans HPa.out)⟩, ?_⟩
          · intro y hy
            rw [HTK.out, List.mem_append] at hy
            rcases hy with hy | hy
            · exact HLE.out y hy
            · rw [List.mem_singleton] at hy; subst hy; have := HMX.out.2; have := HXL.out; omega
          · have := HIM.out
            show m1 - ((i : Int) + 1).toNat < m1 - (i : Int).toNat
            omega
        · have t2 : ¬ (mx : Int) ≤ 1000 := by omega
          clear hxl hx hi
          go_wp2_with fail
          all_goals (go_ret; exact ⟨rfl, HBW.out⟩)
      · have hi' : i = m1 := by omega
        have t1 : (m1 : Int) ≤ (i : Int) := by omega
        have HI : Aside0 (i = l.length) := Aside0.mk (hi'.trans HMN.out.2.1)
        have HFL : Aside0 (pre l i = l.flatten) := Aside0.mk (by rw [HI.out]; exact pre_all l)
        have HLX : Aside0 (∀ x ∈ l, x.length ≤ 1000) := Aside0.mk (fun x hx => HLE.out x (by rw [HI.out, List.take_length]; exact hx))
        have HPLL : Aside0 ((pre l i).length ≤ 30000) := Aside0.mk (by have h := HPL.out (by rw [HI.out]; exact Nat.le_refl _); have := HLN.out.2.1; have := HI.out; omega)
        have HPB : Aside0 (Bs (pre l i)) := Aside0.mk (by
          rw [HFL.out]
          apply bs_of_mem
          intro y hy
          obtain ⟨x, hx, hyx⟩ := List.mem_flatten.1 hy
          obtain ⟨j, hj, e⟩ := List.getElem_of_mem hyx
          have h := HBS.out.2.1 x hx j
          rw [List.getD_eq_getElem?_getD, List.getElem?_eq_getElem hj] at h
          rw [← e]; exact h)
        clear hx hi hi'
        have HOFC : Aside0 (∀ W, Below w.heap.size w W → Calls Try.prog 18 #[.slice A0 m0 k0, .slice A1 m1 k1] W fun e w' => e = .returned (.agg (ints .u8 (cN (macOf key (pre l i)))).toArray) ∧ Below W.heap.size W w') := Aside0.mk (fun W hb => by
          have h := of_calls A0 k0 key A1 k1 l W (Kd.C_below HR.out.1 hb) (Kd.C_below HR.out.2.1 hb) HBS.out.1 HBS.out.2.1 (by have := HLN.out; omega) (by have := HLN.out; omega) (fun x hx => by have := HLX.out x hx; omega)
          rw [← HM.out.1, ← HM.out.2.1, ← HFL.out] at h
          exact h)
        have HROF : Aside0 (∀ W, Below w.heap.size w W → W.ownsRow w1.heap.size 5 1 (.slice A5 m5 k5) (cN (pre l i)).length (nums .u8 (cN (pre l i))) → Calls Try.prog 19 #[.slice A0 m0 k0, .slice A5 m5 k5] W fun e w' => e = .returned (.agg (ints .u8 (cN (macOf key (pre l i)))).toArray) ∧ Below W.heap.size W w') := Aside0.mk (fun W hb ho => by
          have h := rof_calls A0 k0 key A5 k5 (pre l i) W (Kd.C_below HR.out.1 hb) (own_Cq ho) HBS.out.1 HPB.out (by have := HLN.out; omega) (by have := HPLL.out; omega)
          rw [← HM.out.1, ← HM5.out.2] at h
          exact h)
        obtain ⟨bb, hbb⟩ : ∃ bb : Bool, decide (a = b) = bb := ⟨_, rfl⟩
        have HSM : Aside0 (∀ W, Below w.heap.size w W → Calls Try.prog 20 #[.slice A2 m2 k2, .slice A3 m3 k3] W fun e w' => e = .returned (.bool bb) ∧ Below W.heap.size W w') := Aside0.mk (fun W hb => by
          have h := same_calls A2 k2 a A3 k3 b W (Kd.C_below HR.out.2.2.1 hb) (Kd.C_below HR.out.2.2.2 hb) HBS.out.2.2.1 HBS.out.2.2.2 (by have := HLN.out; omega)
          rw [← HM.out.2.2.1, ← HM.out.2.2.2, hbb] at h
          exact h)
        have HS2 : Aside0 (∀ (W : World) (A : Option Addr) (c : Nat), Below w.heap.size w W → Kd.C (Kd.int .u8) W A (cN a).length (cN a) → Calls Try.prog 20 #[.slice A2 m2 k2, .slice A m2 c] W fun e w' => e = .returned (.bool true) ∧ Below W.heap.size W w') := Aside0.mk (fun W A c hb hC => by
          have h := same_calls A2 k2 a A c a W (Kd.C_below HR.out.2.2.1 hb) hC HBS.out.2.2.1 HBS.out.2.2.1 (by have := HLN.out; omega)
          rw [← HM.out.2.2.1, decide_eq_true rfl] at h
          exact h)
        have HCA : Aside0 (∀ W, Below w.heap.size w W → Kd.C (Kd.int .u8) W A2 m2 (cN a)) := Aside0.mk (fun W hb => by rw [HM.out.2.2.1]; exact Kd.C_below HR.out.2.2.1 hb)
        have HLA : Aside0 ((([] : List Int).length + m2) * 1 ≤ 140737488355328) := Aside0.mk (by have := HLN.out; have := HMN.out; show (0 + m2) * 1 ≤ _; omega)
        obtain ⟨sa, hsa⟩ : ∃ s, strOfNums (cN a) = s := ⟨_, rfl⟩
        obtain ⟨sb, hsb⟩ : ∃ s, strOfNums (cN b) = s := ⟨_, rfl⟩
        have hcmp : decide (sa = sb) = bb := by rw [← hsa, ← hsb, ← hbb]; exact decide_eq_decide.2 (str_inj a b HBS.out.2.2.1 HBS.out.2.2.2)
        have hcmp2 : (sa.toList == sb.toList) = bb := ((beq_toListBytes sa sb).symm.trans (bytes_beq sa sb)).trans hcmp
        have HCV : Aside0 ((∀ W : World, Below w.heap.size w W → (convert 22 9 (.slice A2 m2 k2)).run Try.prog W = .ok (.string sa) W) ∧ (∀ W : World, Below w.heap.size w W → (convert 22 9 (.slice A3 m3 k3)).run Try.prog W = .ok (.string sb) W)) := Aside0.mk ⟨fun W hb => by
          have h := Kd.C_string (src := 22) (dst := 9) (c := k2) rfl rfl rfl (Kd.C_below HR.out.2.2.1 hb) (P := Try.prog)
          rw [← HM.out.2.2.1, hsa] at h
          exact h, fun W hb => by
          have h := Kd.C_string (src := 22) (dst := 9) (c := k3) rfl rfl rfl (Kd.C_below HR.out.2.2.2 hb) (P := Try.prog)
          rw [← HM.out.2.2.2, hsb] at h
          exact h⟩
        clear hsa hsb hbb
        go_wp2
        refine start_ (n := 29) (S := fun w' => Below w.heap.size w w' ∧ w'.ownsRow w1.heap.size 5 1 (.slice A5 m5 k5) (cN (pre l i)).length (nums .u8 (cN (pre l i))) ∧ (convert 22 9 (.slice A2 m2 k2)).run Try.prog w' = .ok (.string sa) w' ∧ (convert 22 9 (.slice A3 m3 k3)).run Try.prog w' = .ok (.string sb) w') (ds := []) #[false, false, false, false, false, false, false, false, false, false, false, false, false, false, false, false, false, false, false, false, false, false, false, false, false, false, false, false, false] (by kernel_rfl) rfl rfl ⟨HBW.out.drew, own_drew HO5.out, HCV.out.1 _ HBW.out.drew, HCV.out.2 _ HBW.out.drew⟩ (fun hHeld => ?_)
        refine pure_ (i := 0) (N := some 51) (v := ?_) (a' := ?_) #[true, false, false, false, false, false, false, false, false, false, false, false, false, false, false, false, false, false, false, false, false, false, false, false, false, false, false, false, false] rfl rfl (by kernel_rfl) (fun _ _ _ h => h) (Or.inl ⟨by rfl, ?_⟩) ?_ ?_
        rotate_left
        · intro w'
          go_simp
          with_reducible rfl
        rotate_left
        · simp only [Act.put, List.setIfInBounds_toArray, List.set_cons_zero, List.set_cons_succ, i64_w, i32_w]
          rfl
        refine pure_ (i := 1) (N := some 52) (v := ?_) (a' := ?_) #[true, true, false, false, false, false, false, false, false, false, false, false, false, false, false, false, false, false, false, false, false, false, false, false, false, false, false, false, false] rfl rfl (by kernel_rfl) (fun _ _ _ h => h) (Or.inl ⟨by rfl, ?_⟩) ?_ ?_
        rotate_left
        · intro w'
          go_simp
          with_reducible rfl
        rotate_left
        · simp only [Act.put, List.setIfInBounds_toArray, List.set_cons_zero, List.set_cons_succ, i64_w, i32_w]
          rfl
        refine pure_ (i := 2) (N := some 53) (v := ?_) (a' := ?_) #[true, true, true, false, false, false, false, false, false, false, false, false, false, false, false, false, false, false, false, false, false, false, false, false, false, false, false, false, false] rfl rfl (by kernel_rfl) (fun _ _ _ h => h) (Or.inl ⟨by rfl, ?_⟩) ?_ ?_
        rotate_left
        · intro w'
          go_simp
          with_reducible rfl
        rotate_left
        · simp only [Act.put, List.setIfInBounds_toArray, List.set_cons_zero, List.set_cons_succ, i64_w, i32_w]
          rfl
        refine pure_ (i := 3) (N := some 54) (v := ?_) (a' := ?_) #[true, true, true, true, false, false, false, false, false, false, false, false, false, false, false, false, false, false, false, false, false, false, false, false, false, false, false, false, false] rfl rfl (by kernel_rfl) (fun _ _ _ h => h) (Or.inl ⟨by rfl, ?_⟩) ?_ ?_
        rotate_left
        · intro w'
          go_simp
          with_reducible rfl
        rotate_left
        · simp only [Act.put, List.setIfInBounds_toArray, List.set_cons_zero, List.set_cons_succ, i64_w, i32_w]
          rfl
        refine pure_ (i := 5) (N := some 56) (v := ?_) (a' := ?_) #[true, true, true, true, false, true, false, false, false, false, false, false, false, false, false, false, false, false, false, false, false, false, false, false, false, false, false, false, false] rfl rfl (by kernel_rfl) (fun _ _ _ h => h) (Or.inl ⟨by rfl, ?_⟩) ?_ ?_
        rotate_left
        · intro w'
          go_simp
          with_reducible rfl
        rotate_left
        · simp only [Act.put, List.setIfInBounds_toArray, List.set_cons_zero, List.set_cons_succ, i64_w, i32_w]
          rfl
        refine pure_ (i := 6) (N := some 57) (v := ?_) (a' := ?_) #[true, true, true, true, false, true, true, false, false, false, false, false, false, false, false, false, false, false, false, false, false, false, false, false, false, false, false, false, false] rfl rfl (by kernel_rfl) (fun _ _ _ h => h) (Or.inl ⟨by rfl, ?_⟩) ?_ ?_
        rotate_left
        · intro w'
          go_simp
          with_reducible rfl
        rotate_left
        · simp only [Act.put, List.setIfInBounds_toArray, List.set_cons_zero, List.set_cons_succ, i64_w, i32_w]
          rfl
        refine one_ (i := 4) (N := some 55) #[true, true, true, true, true, true, true, false, false, false, false, false, false, false, false, false, false, false, false, false, false, false, false, false, false, false, false, false, false] rfl rfl (by kernel_rfl) (by decide) (fun K hK => ?_)
        refine goes_ Try.func18 (by kernel_rfl) rfl #[.slice A0 m0 k0, .slice A1 m1 k1] (by rfl) rfl rfl (by simp only [List.map_toArray, List.map_cons, List.map_nil]; rfl) ?_
        with_reducible refine (HOFC.out _ hHeld.1).mono ?_
        rintro e u1 ⟨rfl, hB1⟩
        refine ⟨_, rfl, ?_⟩
        refine hK.out _ _ ⟨hHeld.1.trans (hB1.mono hHeld.1.size), own_move hHeld.2.1 (fun q hq => hB1.block q (own_lt hHeld.2.1 q hq)), HCV.out.1 _ (hHeld.1.trans (hB1.mono hHeld.1.size)), HCV.out.2 _ (hHeld.1.trans (hB1.mono hHeld.1.size))⟩ (fun hHeld => ?_)
        clear hK K
        refine norm_ (a' := ?_) ?_ ?_
        rotate_left
        · show Act.put _ (some 55) _ = _
          simp only [Act.put, List.setIfInBounds_toArray, List.set_cons_zero, List.set_cons_succ, i64_w, i32_w]
          rfl
        refine one_ (i := 7) (N := some 58) #[true, true, true, true, true, true, true, true, false, false, false, false, false, false, false, false, false, false, false, false, false, false, false, false, false, false, false, false, false] rfl rfl (by kernel_rfl) (by decide) (fun K hK => ?_)
        refine goes_ Try.func19 (by kernel_rfl) rfl #[.slice A0 m0 k0, .slice A5 m5 k5] (by rfl) rfl rfl (by simp only [List.map_toArray, List.map_cons, List.map_nil]; rfl) ?_
        with_reducible refine (HROF.out _ hHeld.1 hHeld.2.1).mono ?_
        rintro e u2 ⟨rfl, hB2⟩
        refine ⟨_, rfl, ?_⟩
        refine hK.out _ _ ⟨hHeld.1.trans (hB2.mono hHeld.1.size), own_move hHeld.2.1 (fun q hq => hB2.block q (own_lt hHeld.2.1 q hq)), HCV.out.1 _ (hHeld.1.trans (hB2.mono hHeld.1.size)), HCV.out.2 _ (hHeld.1.trans (hB2.mono hHeld.1.size))⟩ (fun hHeld => ?_)
        clear hK K
        refine norm_ (a' := ?_) ?_ ?_
        rotate_left
        · show Act.put _ (some 58) _ = _
          simp only [Act.put, List.setIfInBounds_toArray, List.set_cons_zero, List.set_cons_succ, i64_w, i32_w]
          rfl
        refine pure_ (i := 8) (N := some 59) (v := ?_) (a' := ?_) #[true, true, true, true, true, true, true, true, true, false, false, false, false, false, false, false, false, false, false, false, false, false, false, false, false, false, false, false, false] rfl rfl (by kernel_rfl) (fun _ _ _ h => h) (Or.inl ⟨by rfl, ?_⟩) ?_ ?_
        rotate_left
        · intro w'
          go_simp
          with_reducible rfl
        rotate_left
        · simp only [Act.put, List.setIfInBounds_toArray, List.set_cons_zero, List.set_cons_succ, i64_w, i32_w]
          rfl
        refine pure_ (i := 9) (N := some 60) (v := ?_) (a' := ?_) #[true, true, true, true, true, true, true, true, true, true, false, false, false, false, false, false, false, false, false, false, false, false, false, false, false, false, false, false, false] rfl rfl (by kernel_rfl) (fun _ _ _ h => h) (Or.inl ⟨by rfl, ?_⟩) ?_ ?_
        rotate_left
        · intro w'
          go_simp
          with_reducible rfl
        rotate_left
        · simp only [Act.put, List.setIfInBounds_toArray, List.set_cons_zero, List.set_cons_succ, i64_w, i32_w]
          rfl
        refine pure_ (i := 10) (N := some 61) (v := ?_) (a' := ?_) #[true, true, true, true, true, true, true, true, true, true, true, false, false, false, false, false, false, false, false, false, false, false, false, false, false, false, false, false, false] rfl rfl (by kernel_rfl) (fun _ _ _ h => h) (Or.inl ⟨by rfl, ?_⟩) ?_ ?_
        rotate_left
        · intro w'
          go_simp
          with_reducible rfl
        rotate_left
        · simp only [Act.put, List.setIfInBounds_toArray, List.set_cons_zero, List.set_cons_succ, i64_w, i32_w]
          rfl
        refine pure_ (i := 11) (N := some 62) (v := ?_) (a' := ?_) #[true, true, true, true, true, true, true, true, true, true, true, true, false, false, false, false, false, false, false, false, false, false, false, false, false, false, false, false, false] rfl rfl (by kernel_rfl) (fun _ _ _ h => h) (Or.inl ⟨by rfl, ?_⟩) ?_ ?_
        rotate_left
        · intro w'
          go_simp
          with_reducible rfl
        rotate_left
        · simp only [Act.put, List.setIfInBounds_toArray, List.set_cons_zero, List.set_cons_succ, i64_w, i32_w]
          rfl
        refine pure_ (i := 12) (N := some 63) (v := ?_) (a' := ?_) #[true, true, true, true, true, true, true, true, true, true, true, true, true, false, false, false, false, false, false, false, false, false, false, false, false, false, false, false, false] rfl rfl (by kernel_rfl) (fun _ _ _ h => h) (Or.inl ⟨by rfl, ?_⟩) ?_ ?_
        rotate_left
        · intro w'
          go_simp
          with_reducible rfl
        rotate_left
        · simp only [Act.put, List.setIfInBounds_toArray, List.set_cons_zero, List.set_cons_succ, i64_w, i32_w]
          rfl
        refine pure_ (i := 14) (N := some 65) (v := ?_) (a' := ?_) #[true, true, true, true, true, true, true, true, true, true, true, true, true, false, true, false, false, false, false, false, false, false, false, false, false, false, false, false, false] rfl rfl (by kernel_rfl) (fun _ _ _ h => h) (Or.inl ⟨by rfl, ?_⟩) ?_ ?_
        rotate_left
        · intro w'
          go_simp
          with_reducible rfl
        rotate_left
        · simp only [Act.put, List.setIfInBounds_toArray, List.set_cons_zero, List.set_cons_succ, i64_w, i32_w]
          rfl
        refine pure_ (i := 16) (N := some 67) (v := ?_) (a' := ?_) #[true, true, true, true, true, true, true, true, true, true, true, true, true, false, true, false, true, false, false, false, false, false, false, false, false, false, false, false, false] rfl rfl (by kernel_rfl) (fun _ _ _ h => h) (Or.inl ⟨by rfl, ?_⟩) ?_ ?_
        rotate_left
        · intro w'
          go_simp
          with_reducible rfl
        rotate_left
        · simp only [Act.put, List.setIfInBounds_toArray, List.set_cons_zero, List.set_cons_succ, i64_w, i32_w]
          rfl
        refine take_ (i := 15) (N := some 66) (v := ?_) (a' := ?_) #[true, true, true, true, true, true, true, true, true, true, true, true, true, false, true, true, true, false, false, false, false, false, false, false, false, false, false, false, false] rfl rfl (by kernel_rfl) (fun _ _ _ h => h) (Or.inl ⟨by rfl, ?_⟩) hHeld ?_ ?_
        rotate_left
        · rintro w' ⟨s0, s1, s2, s3⟩
          go_simp
          with_reducible rfl
        rotate_left
        · simp only [Act.put, List.setIfInBounds_toArray, List.set_cons_zero, List.set_cons_succ, i64_w, i32_w]
          rfl
        refine take_ (i := 17) (N := some 68) (v := ?_) (a' := ?_) #[true, true, true, true, true, true, true, true, true, true, true, true, true, false, true, true, true, true, false, false, false, false, false, false, false, false, false, false, false] rfl rfl (by kernel_rfl) (fun _ _ _ h => h) (Or.inl ⟨by rfl, ?_⟩) hHeld ?_ ?_
        rotate_left
        · rintro w' ⟨s0, s1, s2, s3⟩
          go_simp
          with_reducible rfl
        rotate_left
        · simp only [Act.put, List.setIfInBounds_toArray, List.set_cons_zero, List.set_cons_succ, i64_w, i32_w]
          rfl
        refine pure_ (i := 18) (N := some 69) (v := ?_) (a' := ?_) #[true, true, true, true, true, true, true, true, true, true, true, true, true, false, true, true, true, true, true, false, false, false, false, false, false, false, false, false, false] rfl rfl (by kernel_rfl) (fun _ _ _ h => h) (Or.inl ⟨by rfl, ?_⟩) ?_ ?_
        rotate_left
        · intro w'
          go_simp
          with_reducible rfl
        rotate_left
        · simp only [Act.put, List.setIfInBounds_toArray, List.set_cons_zero, List.set_cons_succ, i64_w, i32_w]
          rfl
        refine one_ (i := 13) (N := some 64) #[true, true, true, true, true, true, true, true, true, true, true, true, true, true, true, true, true, true, true, false, false, false, false, false, false, false, false, false, false] rfl rfl (by kernel_rfl) (by decide) (fun K hK => ?_)
        refine goes_ Try.func20 (by kernel_rfl) rfl #[.slice A2 m2 k2, .slice A3 m3 k3] (by rfl) rfl rfl (by simp only [List.map_toArray, List.map_cons, List.map_nil]; rfl) ?_
        with_reducible refine (HSM.out _ hHeld.1).mono ?_
        rintro e u3 ⟨rfl, hB3⟩
        refine ⟨_, rfl, ?_⟩
        refine hK.out _ _ ⟨hHeld.1.trans (hB3.mono hHeld.1.size), own_move hHeld.2.1 (fun q hq => hB3.block q (own_lt hHeld.2.1 q hq)), HCV.out.1 _ (hHeld.1.trans (hB3.mono hHeld.1.size)), HCV.out.2 _ (hHeld.1.trans (hB3.mono hHeld.1.size))⟩ (fun hHeld => ?_)
        clear hK K
        refine norm_ (a' := ?_) ?_ ?_
        rotate_left
        · show Act.put _ (some 64) _ = _
          simp only [Act.put, List.setIfInBounds_toArray, List.set_cons_zero, List.set_cons_succ, i64_w, i32_w]
          rfl
        refine pure_ (i := 19) (N := some 70) (v := ?_) (a' := ?_) #[true, true, true, true, true, true, true, true, true, true, true, true, true, true, true, true, true, true, true, true, false, false, false, false, false, false, false, false, false] rfl rfl (by kernel_rfl) (fun _ _ _ h => h) (Or.inl ⟨by rfl, ?_⟩) ?_ ?_
        rotate_left
        · intro w'
          go_simp
          with_reducible rfl
        rotate_left
        · simp only [Act.put, List.setIfInBounds_toArray, List.set_cons_zero, List.set_cons_succ, i64_w, i32_w]
          rfl
        refine pure_ (i := 20) (N := some 71) (v := ?_) (a' := ?_) #[true, true, true, true, true, true, true, true, true, true, true, true, true, true, true, true, true, true, true, true, true, false, false, false, false, false, false, false, false] rfl rfl (by kernel_rfl) (fun _ _ _ h => h) (Or.inl ⟨by rfl, ?_⟩) ?_ ?_
        rotate_left
        · intro w'
          go_simp
          with_reducible rfl
        rotate_left
        · simp only [Act.put, List.setIfInBounds_toArray, List.set_cons_zero, List.set_cons_succ, i64_w, i32_w]
          rfl
        refine pure_ (i := 21) (N := some 72) (v := ?_) (a' := ?_) #[true, true, true, true, true, true, true, true, true, true, true, true, true, true, true, true, true, true, true, true, true, true, false, false, false, false, false, false, false] rfl rfl (by kernel_rfl) (fun _ _ _ h => h) (Or.inl ⟨by rfl, ?_⟩) ?_ ?_
        rotate_left
        · intro w'
          go_simp
          with_reducible rfl
        rotate_left
        · simp only [Act.put, List.setIfInBounds_toArray, List.set_cons_zero, List.set_cons_succ, i64_w, i32_w]
          rfl
        refine pure_ (i := 22) (N := some 73) (v := ?_) (a' := ?_) #[true, true, true, true, true, true, true, true, true, true, true, true, true, true, true, true, true, true, true, true, true, true, true, false, false, false, false, false, false] rfl rfl (by kernel_rfl) (fun _ _ _ h => h) (Or.inl ⟨by rfl, ?_⟩) ?_ ?_
        rotate_left
        · intro w'
          go_simp
          with_reducible rfl
        rotate_left
        · simp only [Act.put, List.setIfInBounds_toArray, List.set_cons_zero, List.set_cons_succ, i64_w, i32_w]
          rfl
        refine pure_ (i := 24) (N := some 75) (v := ?_) (a' := ?_) #[true, true, true, true, true, true, true, true, true, true, true, true, true, true, true, true, true, true, true, true, true, true, true, false, true, false, false, false, false] rfl rfl (by kernel_rfl) (fun _ _ _ h => h) (Or.inl ⟨by rfl, ?_⟩) ?_ ?_
        rotate_left
        · intro w'
          go_simp
          with_reducible rfl
        rotate_left
        · simp only [Act.put, List.setIfInBounds_toArray, List.set_cons_zero, List.set_cons_succ, i64_w, i32_w]
          rfl
        refine one_ (i := 23) (N := some 74) #[true, true, true, true, true, true, true, true, true, true, true, true, true, true, true, true, true, true, true, true, true, true, true, true, true, false, false, false, false] rfl rfl (by kernel_rfl) (by decide) (fun K hK => ?_)
        refine value_ (w1 := ?_) (v := ?_) (by rfl) rfl ?_ ?_
        rotate_left 2
        · go_simp
          constructor
          · rfl
          · rfl
        have hu3 := hHeld.1.size
        have hOlt := fun q hq => own_lt hHeld.2.1 q hq
        refine hK.out _ _ ⟨below_alloc hHeld.1 _, own_move hHeld.2.1 (fun q hq => Below.heap_alloc _ _ _ (own_lt hHeld.2.1 q hq)), HCV.out.1 _ (below_alloc hHeld.1 _), HCV.out.2 _ (below_alloc hHeld.1 _)⟩ (fun hHeld => ?_)
        clear hK K
        refine norm_ (a' := ?_) ?_ ?_
        rotate_left
        · show Act.put _ (some 74) _ = _
          simp only [Act.put, List.setIfInBounds_toArray, List.set_cons_zero, List.set_cons_succ, i64_w, i32_w]
          rfl
        refine one_ (i := 25) (N := some 76) #[true, true, true, true, true, true, true, true, true, true, true, true, true, true, true, true, true, true, true, true, true, true, true, true, true, true, false, false, false] rfl rfl (by kernel_rfl) (by decide) (fun K hK => ?_)
        have hOl : World.ownsRow (World.alloc u3 (.cells #[] 5)) u3.heap.size 5 1 (.slice (some ⟨u3.heap.size, 0, none⟩) 0 0) ([] : List Int).length (encs (Value.int .u8) []) := own_lit u3 u3.heap.size 5 .u8 [] (Nat.le_refl _) (by simp)
        have hZ : Kd.C (Kd.int .u8) (World.alloc u3 (.cells #[] 5)) A2 m2 (cN a) := HCA.out _ hHeld.1
        refine Kd.R_append_rows_step (Kd.int .u8) (w0 := (World.alloc u3 (.cells #[] 5))) (W := (World.alloc u3 (.cells #[] 5))) u3.heap.size (by rfl) (.tmp 74) (.tmp 75) 22 5 (.int .u8 0) 1 rfl rfl rfl rfl (by decide) (by omega) (.slice (some ⟨u3.heap.size, 0, none⟩) 0 0) [] (cN a) A2 m2 k2 (fun _ => True) (fun _ => False) rfl rfl (Kd.R_of_own hOl (fun _ _ => trivial)) hZ (fun _ _ h => h) (fun _ h => h.elim) (fun _ _ => trivial) (Below.refl _ _) (below_alloc (Below.refl u3.heap.size u3) _).size HLA.out ?_
        intro v5 u5 ho hb hg hat
        clear hg hat
        rw [List.nil_append] at ho
        obtain ⟨A6, k6, e6⟩ := own_slice (Kd.own_of_R ho)
        rw [← HM.out.2.2.1] at e6
        subst e6
        have hC6 := own_Cq (Kd.own_of_R ho)
        have hSS := HS2.out u5 A6 k6 (hHeld.1.trans (hb.mono hu3)) hC6
        clear ho hZ hOl
        refine hK.out _ _ ⟨hHeld.1.trans (hb.mono hu3), own_move hHeld.2.1 (fun q hq => hb.block q (hOlt q hq)), HCV.out.1 _ (hHeld.1.trans (hb.mono hu3)), HCV.out.2 _ (hHeld.1.trans (hb.mono hu3))⟩ (fun hHeld => ?_)
        clear hK K
        refine norm_ (a' := ?_) ?_ ?_
        rotate_left
        · show Act.put _ (some 76) _ = _
          simp only [Act.put, List.setIfInBounds_toArray, List.set_cons_zero, List.set_cons_succ, i64_w, i32_w]
          rfl
        refine one_ (i := 26) (N := some 77) #[true, true, true, true, true, true, true, true, true, true, true, true, true, true, true, true, true, true, true, true, true, true, true, true, true, true, true, false, false] rfl rfl (by kernel_rfl) (by decide) (fun K hK => ?_)
        refine goes_ Try.func20 (by kernel_rfl) rfl #[.slice A2 m2 k2, .slice A6 m2 k6] (by rfl) rfl rfl (by simp only [List.map_toArray, List.map_cons, List.map_nil]; rfl) ?_
        with_reducible refine (hSS).mono ?_
        rintro e u7 ⟨rfl, hB7⟩
        refine ⟨_, rfl, ?_⟩
        refine hK.out _ _ ⟨hHeld.1.trans (hB7.mono hHeld.1.size), own_move hHeld.2.1 (fun q hq => hB7.block q (own_lt hHeld.2.1 q hq)), HCV.out.1 _ (hHeld.1.trans (hB7.mono hHeld.1.size)), HCV.out.2 _ (hHeld.1.trans (hB7.mono hHeld.1.size))⟩ (fun hHeld => ?_)
        clear hK K
        refine norm_ (a' := ?_) ?_ ?_
        rotate_left
        · show Act.put _ (some 77) _ = _
          simp only [Act.put, List.setIfInBounds_toArray, List.set_cons_zero, List.set_cons_succ, i64_w, i32_w]
          rfl
        refine pure_ (i := 27) (N := some 78) (v := ?_) (a' := ?_) #[true, true, true, true, true, true, true, true, true, true, true, true, true, true, true, true, true, true, true, true, true, true, true, true, true, true, true, true, false] rfl rfl (by kernel_rfl) (fun _ _ _ h => h) (Or.inl ⟨by rfl, ?_⟩) ?_ ?_
        rotate_left
        · intro w'
          go_simp
          with_reducible rfl
        rotate_left
        · simp only [Act.put, List.setIfInBounds_toArray, List.set_cons_zero, List.set_cons_succ, i64_w, i32_w]
          rfl
        refine pure_ (i := 28) (N := some 8) (v := ?_) (a' := ?_) #[true, true, true, true, true, true, true, true, true, true, true, true, true, true, true, true, true, true, true, true, true, true, true, true, true, true, true, true, true] rfl rfl (by kernel_rfl) (fun _ _ _ h => h) (Or.inl ⟨by rfl, ?_⟩) ?_ ?_
        rotate_left
        · intro w'
          go_simp
          with_reducible rfl
        rotate_left
        · simp only [Act.put, List.setIfInBounds_toArray, List.set_cons_zero, List.set_cons_succ, i64_w, i32_w]
          rfl
        refine done_ (by kernel_rfl) ?_
        go_wp2
        go_ret
        exact ⟨by first | rfl | (simp [hcmp2]; done), hHeld.1⟩
  · have hbig' : (decide (1000 < (m0 : Int)) || decide (30 < (m1 : Int)) || decide (1000 < (m2 : Int)) || decide (1000 < (m3 : Int))) = true := by simp; omega
    clear hbig
    go_enter Try.func7, Try.ntmps7
    go_wp2_with fail
    refine (up4_calls w).mono ?_
    rintro e w1 ⟨rfl, hB1⟩
    have HBa : Aside0 (Below w.heap.size w w1) := Aside0.mk hB1
    clear hB1
    go_wp2_with fail
    all_goals (go_ret; exact ⟨rfl, HBa.out⟩)
end Go.Proofs.Ytinjhmmbndonhaa.PShaSums
