/- The walk of ShaWrites. -/
import Derived.Test.YtinjhmmbndonhaaHo
import Derived.Test.YtinjhmmbndonhaaRu
namespace Go.Proofs.Ytinjhmmbndonhaa.PShaSums
open Go.RowKit Go.Proofs.YtinjhmmbndonhaaW.PrintWords Go.Proofs.YtinjhmmbndonhaaW.PrintLast Go.Proofs.YtinjhmmbndonhaaW.PrintMore Go.Proofs.Ytinjhmmbndonhaa.Sha Go.Proofs.Ytinjhmmbndonhaa.Arr
attribute [local go_sem] max2_int min2_int max_two min_two max_three min_three max_four min_four
attribute [local go_sem high] u8_w
set_option linter.unusedVariables false
set_option linter.unusedSimpArgs false
theorem neq_dig (a b : List Nat) (ha : a.length = 32) (hb : b.length = 32) (w : World) : (binOp .neq 25 (.agg (ints .u8 (cN a)).toArray) (.agg (ints .u8 (cN b)).toArray)).run Try.prog w = .ok (.bool (!decide (a = b))) w := by
  have h := eql_dig a b ha hb w
  rw [run_eql_struct] at h
  rw [run_neq_struct]
  cases e : (Op.equalIn 10000 25 (.agg (ints .u8 (cN a)).toArray) (.agg (ints .u8 (cN b)).toArray)).run Try.prog w with
  | ok r w' =>
    rw [e] at h
    simp only [Result.andThen_ok] at h ⊢
    injection h with h1 h2
    injection h1 with h1
    rw [h1, h2]
  | _ => rw [e] at h; simp [Result.andThen] at h
theorem eqlS (xs ys : List Nat) (w : World) : (binOp .eql 25 (.agg (ints .u8 (cN (sum xs))).toArray) (.agg (ints .u8 (cN (sum ys))).toArray)).run Try.prog w = .ok (.bool (decide (sum xs = sum ys))) w := eql_dig _ _ (sum_length xs) (sum_length ys) w
theorem neqS (xs ys : List Nat) (w : World) : (binOp .neq 25 (.agg (ints .u8 (cN (sum xs))).toArray) (.agg (ints .u8 (cN (sum ys))).toArray)).run Try.prog w = .ok (.bool (!decide (sum xs = sum ys))) w := neq_dig _ _ (sum_length xs) (sum_length ys) w
attribute [local go_sem high] eqlS neqS
/-- the first i parts of a text, one behind the other -/
def pre (l : List (List Nat)) (i : Nat) : List Nat := (l.take i).flatten
theorem pre_succ (l : List (List Nat)) (i : Nat) (h : i < l.length) : pre l i ++ l.getD i [] = pre l (i + 1) := by
  unfold pre
  rw [List.take_add_one, List.flatten_append, List.getD_eq_getElem?_getD, List.getElem?_eq_getElem h]
  simp
theorem pre_bs (l : List (List Nat)) (h : ∀ x ∈ l, Bs x) : ∀ i, Bs (pre l i) := by
  intro i
  induction i with
  | zero => intro j; show ([] : List Nat).getD j 0 < 256; simp
  | succ i ih =>
    by_cases hi : i < l.length
    · rw [← pre_succ l i hi]
      refine ih.append ?_
      rw [List.getD_eq_getElem?_getD, List.getElem?_eq_getElem hi]
      exact h _ (List.getElem_mem hi)
    · unfold pre at *
      rw [List.take_of_length_le (by omega)]
      rwa [List.take_of_length_le (by omega)] at ih
theorem pre_zero (l : List (List Nat)) : pre l 0 = [] := rfl
/-- an element of a row of rows -/
theorem rows_cell {w : World} {A : Option Addr} {l : List (List Nat)} (h : Kd.C (Kd.slice 5 (Kd.int .u8)) w A (l.map cN).length (l.map cN)) (i : Nat) (hi : i < l.length) :
    ∃ ad A1 c1, A = some ad ∧ w.cell? (ad.add i) = some (.slice A1 (cN (l.getD i [])).length c1) ∧ (cN (l.getD i [])).length ≤ c1 ∧ Kd.C (Kd.int .u8) w A1 (cN (l.getD i [])).length (cN (l.getD i [])) := by
  obtain ⟨ad, c, e, _, hK, hc⟩ := Kd.C_get h ([] : List Int) (i : Int) (by omega) (by rw [List.length_map]; omega)
  have e2 : (l.map cN).getD ((i : Int)).toNat [] = cN (l.getD i []) := by
    rw [Int.toNat_natCast, List.getD_eq_getElem?_getD, List.getD_eq_getElem?_getD, List.getElem?_map]
    cases l[i]? <;> rfl
  rw [e2] at hK
  obtain ⟨A1, c1, rfl, hle, hC⟩ := hK
  have h0 := hc 0 _ rfl
  rw [show (Kd.slice 5 (Kd.int IntKind.u8)).sz = 1 from rfl, Int.toNat_natCast, Nat.mul_one, Nat.add_zero] at h0
  exact ⟨ad, A1, c1, e, h0, hle, hC⟩
theorem own_block {w : World} {base n : Nat} {e : TypeId} {v : Value} {xs : List Value} (h : w.ownsRow base e 1 v n xs) (q : Nat) (hq : v.ownBlock = some q) : base ≤ q ∧ q < w.heap.size := ⟨own_base h q hq, own_lt h q hq⟩
set_option maxHeartbeats 8000000 in
set_option maxRecDepth 100000 in
theorem writes_calls (A0 : Option Addr) (k0 : Nat) (l : List (List Nat)) (w : World) (hr0 : Kd.C (Kd.slice 5 (Kd.int .u8)) w A0 (l.map cN).length (l.map cN)) (hb0 : ∀ x ∈ l, Bs x) :
    Calls Try.prog 4 #[.slice A0 (l.map cN).length k0] w fun e w' => e = .returned (.bool true) ∧ Below w.heap.size w w' := by
  obtain ⟨m0, hm0⟩ : ∃ m, m = (l.map cN).length := ⟨_, rfl⟩
  have HR0 := Aside0.mk hr0
  have HBS := Aside0.mk hb0
  have HM : Aside0 (m0 = l.length) := Aside0.mk (by rw [hm0, List.length_map])
  rw [← hm0]
  clear hr0 hb0 hm0
  by_cases hbig : m0 ≤ 30
  · have p0 : (m0 : Int) ≤ 30 := by omega
    have HM30 := Aside0.mk hbig
    clear hbig
    go_enter Try.func4, Try.ntmps4
    go_wp2_with fail
    refine (up_calls w).mono ?_
    rintro e w1 ⟨rfl, hB1⟩
    go_wp2_with fail
    refine (took_new w1).mono ?_
    rintro e w2 ⟨h, rfl, hh, hT2, hB2⟩
    have HB2 : Aside0 (Below w.heap.size w w2) := Aside0.mk (hB1.trans (hB2.mono hB1.size))
    have HH : Aside0 (w.heap.size ≤ h) := Aside0.mk (Nat.le_trans hB1.size hh)
    have HT2 := Aside0.mk hT2
    clear hB1 hB2 hT2 hh
    go_wp2
    go_loopw [5, 6] (fun va vi wr => ∃ i : Nat, i ≤ m0 ∧ vi = .int .i64 (i : Int) ∧ Aside0 ((pre l i).length ≤ 1000 * i) ∧ Aside0 (wr.ownsRow w2.heap.size 5 1 va (cN (pre l i)).length (nums .u8 (cN (pre l i)))) ∧ Aside0 (w2.heap.size ≤ wr.heap.size) ∧ Aside0 (∃ vh, Took wr h (pre l i) vh ∧ (∀ k, vh.ownBlock = some k → w2.heap.size ≤ k) ∧ ∀ q, va.ownBlock = some q → vh.ownBlock ≠ some q) ∧ Aside0 (Below w.heap.size w wr))
      (fun _ vi _ => m0 - (intOf vi).toNat)
    case atStart => exact ⟨0, Nat.zero_le _, rfl, Aside0.mk (Nat.le_refl _), Aside0.mk (own_none _), Aside0.mk (Nat.le_refl _), Aside0.mk ⟨_, HT2.out, fun k hk => (by cases hk), fun q hq => by cases hq⟩, HB2⟩
    case round =>
      obtain ⟨i, hi, rfl, HLEN, HO, HSR, HTK, HB⟩ := hrel
      obtain ⟨A5, k5, rfl⟩ := own_slice HO.out
      obtain ⟨vh, hvh⟩ := HTK.out
      obtain ⟨hT, hvk, hvs⟩ := hvh
      obtain ⟨m5, hm5⟩ : ∃ m, m = (cN (pre l i)).length := ⟨_, rfl⟩
      have HM5 : Aside0 (m5 = (pre l i).length ∧ m5 = (cN (pre l i)).length) := Aside0.mk ⟨by rw [hm5, cN_length], hm5⟩
      rw [← hm5]
      have HO5 : Aside0 (wr.ownsRow w2.heap.size 5 1 (.slice A5 m5 k5) (cN (pre l i)).length (nums .u8 (cN (pre l i)))) := Aside0.mk (by rw [hm5]; exact HO.out)
      have HVS : Aside0 (∀ q, (Value.slice A5 m5 k5).ownBlock = some q → vh.ownBlock ≠ some q) := Aside0.mk (by rw [hm5]; exact hvs)
      have HVK := Aside0.mk hvk
      have HT := Aside0.mk hT
      have HHL : Aside0 (h < w2.heap.size) := Aside0.mk HT2.out.size
      have HSM := Aside0.mk (took_sum wr h _ _ hT (by have := HLEN.out; have := HM30.out; omega))
      clear hT hvk hvs hm5 HO HTK
      by_cases hx : i < m0
      · have t1 : (i : Int) < (m0 : Int) := by omega
        have HIX : Aside0 (i < l.length) := Aside0.mk (by have := HM.out; omega)
        have HIM := Aside0.mk hx
        obtain ⟨ad, A1, c1, eA, hc, hle, hC⟩ := rows_cell HR0.out i HIX.out
        cases eA
        obtain ⟨x, hX⟩ : ∃ x, l.getD i [] = x := ⟨_, rfl⟩
        have HBX : Aside0 (Bs x) := Aside0.mk (by rw [← hX, List.getD_eq_getElem?_getD, List.getElem?_eq_getElem HIX.out]; exact HBS.out _ (List.getElem_mem HIX.out))
        have HPRE : Aside0 (pre l i ++ x = pre l (i + 1)) := Aside0.mk (by rw [← hX]; exact pre_succ l i HIX.out)
        rw [hX] at hc hle hC
        clear hX
        obtain ⟨mx, hmx⟩ : ∃ m, m = (cN x).length := ⟨_, rfl⟩
        have HC := Aside0.mk hC
        rw [← hmx] at hc hle hC
        have HMX : Aside0 (mx = (cN x).length ∧ mx = x.length) := Aside0.mk ⟨hmx, by rw [hmx, cN_length]⟩
        have HCELL : Aside0 (∀ w', Below w.heap.size w w' → w'.cell? (ad.add i) = some (.slice A1 mx c1)) := Aside0.mk (fun w' hb => (hb.cell (p := ad.add i) (World.block_lt_of_cell? w _ hc)).trans hc)
        clear hmx hle hC hc
        have hc := HCELL.out wr HB.out
        by_cases hxl : mx ≤ 1000
        · have t2 : (mx : Int) ≤ 1000 := by omega
          have HXL := Aside0.mk hxl
          clear hxl hx hi
          go_wp2_with fail
          refine HSM.out.mono ?_
          rintro e w6 ⟨rfl, hB6⟩
          have HB6 : Aside0 (Below w.heap.size w w6) := Aside0.mk (HB.out.trans (hB6.mono HB.out.size))
          have HT6 := Aside0.mk (HT.out.below hB6)
          have HS6 : Aside0 (wr.heap.size ≤ w6.heap.size) := Aside0.mk hB6.size
          have HO6 := Aside0.mk (own_move HO5.out (w1 := w6) (fun q hq => hB6.block q (own_lt HO5.out q hq)))
          have hr6 := rsum_calls A5 k5 (pre l i) w6 (own_C HO6.out) (pre_bs l HBS.out i) (by have := HLEN.out; have := HM30.out; have := HIM.out; omega)
          rw [← HM5.out.2] at hr6
          have HR6 := Aside0.mk hr6
          clear hB6 HSM HT HO5 hr6
          go_wp2_with fail
          refine HR6.out.mono ?_
          rintro e w7 ⟨rfl, hB7⟩
          have HB7 : Aside0 (Below w.heap.size w w7) := Aside0.mk (HB6.out.trans (hB7.mono HB6.out.size))
          have HT7 := Aside0.mk (HT6.out.below hB7)
          have HS7 : Aside0 (w2.heap.size ≤ w7.heap.size) := Aside0.mk (by have h1 := HSR.out; have h2 := HS6.out; have h3 := hB7.size; omega)
          have HO7 := Aside0.mk (own_move HO6.out (w1 := w7) (fun q hq => hB7.block q (own_lt HO6.out q hq)))
          have hln := took_len w7 h _ _ HT7.out
          rw [← HM5.out.1] at hln
          have HLN := Aside0.mk hln
          clear hB7 HR6 HT6 HO6 HB6 hln
          clear hc
          go_wp2_with fail
          refine HLN.out.mono ?_
          rintro e w8 ⟨rfl, rfl⟩
          clear HLN
          have hW := took_write A1 c1 x w8 h (pre l i) vh HT7.out (Kd.C_below HC.out HB7.out) HBX.out (old_row HC.out HH.out) (by have := HLEN.out; have := HM30.out; have := HMX.out.2; have := HXL.out; have := HIM.out; omega)
          rw [← HMX.out.1] at hW
          have HW := Aside0.mk hW
          have hc := HCELL.out w8 HB7.out
          clear hW
          go_wp2_with fail
          refine HW.out.mono ?_
          rintro e w9 ⟨rfl, v9, hT9, hk9, hat9⟩
          have hB9 : Below w.heap.size w w9 := HB7.out.trans (hk9.below HH.out (fun k hk => by have h1 := HVK.out k hk; have h2 := HB2.out.size; omega) HB7.out.size)
          have HB9 := Aside0.mk hB9
          have HO9 := Aside0.mk (own_move HO7.out (w1 := w9) (fun q hq => hk9.keep.2 q (own_lt HO7.out q hq) (by have h1 := own_base HO7.out q hq; have := HHL.out; omega) (fun e => HVS.out q hq e.symm)))
          have HT9 := Aside0.mk hT9
          have HV9 : Aside0 ((∀ k, v9.ownBlock = some k → w2.heap.size ≤ k) ∧ ∀ q, (Value.slice A5 m5 k5).ownBlock = some q → v9.ownBlock ≠ some q) := Aside0.mk (by
            have h7 := own_lt HO7.out
            rcases hat9 with e | ⟨b, e, hb⟩
            · rw [e]; exact ⟨HVK.out, HVS.out⟩
            · rw [e]
              have h1 := (own_base HO7.out)
              refine ⟨fun k hk => ?_, fun q hq e2 => ?_⟩
              · injection hk with hk
                have h3 := HS7.out
                omega
              · injection e2 with e2
                have := h7 q hq
                omega)
          have HQ9 : Aside0 (ReadsInt w9 .u8 A1 mx (cN x)) := Aside0.mk (by rw [HMX.out.1]; exact reads_of .u8 (Kd.C_below HC.out hB9))
          have HS9 : Aside0 (w2.heap.size ≤ w9.heap.size) := Aside0.mk (by have h1 := HS7.out; have h2 := hk9.keep.1; omega)
          have hl9 : ((cN (pre l i)).length + mx) * 1 ≤ 140737488355328 := by have := HLEN.out; have := HM30.out; have := HMX.out.2; have := HXL.out; have := HIM.out; rw [cN_length]; omega
          clear hc
          have hc := HCELL.out w9 hB9
          clear hB9 hT9 hk9 hat9 HW HO7 HT7
          go_wp2_with (first
            | ((with_reducible refine gate_dst (N := 57) rfl ?_); refine print_append_row (w0 := w9) w2.heap.size rfl (.tmp 52) (.tmp 56) 22 5 .u8 1 rfl rfl rfl (by omega) (.slice A5 m5 k5) (cN (pre l i)) (cN x) A1 mx c1 rfl rfl HO9.out HQ9.out (Below.refl _ _) HS9.out hl9 ?_; intro va wa ho hb hg hat; have HOa := Aside0.mk ho; have HPa := Aside0.mk hb; have HGa := Aside0.mk hg; have HATa := Aside0.mk hat; clear ho hb hg hat hc hl9))
          have hoa := HOa.out
          rw [← cN_append, HPRE.out] at hoa
          have hTa : Took wa h (pre l (i + 1)) v9 := by
            rw [← HPRE.out]
            refine HashAt.kept HT9.out (HGa.out.block h HT9.out.size (fun e => ?_)) (fun j hj => HGa.out.block j (HT9.out.lt j hj) (fun e => HV9.out.2 j e.symm hj))
            have h1 := own_base HO9.out h e.symm
            have := HHL.out
            omega
          have hsep : ∀ q, va.ownBlock = some q → v9.ownBlock ≠ some q := by
            intro q hq e
            rcases HATa.out with e1 | ⟨b, e1, hb⟩
            · rw [e1] at hq; exact HV9.out.2 q hq e
            · rw [e1] at hq
              injection hq with hq
              have := HT9.out.lt q e
              omega
          refine ⟨⟨i + 1, HIM.out, by rw [Int.natCast_add]; rfl, Aside0.mk ?_, Aside0.mk hoa, Aside0.mk (Nat.le_trans HS9.out HPa.out.size), Aside0.mk ⟨v9, hTa, HV9.out.1, hsep⟩, Aside0.mk (HB9.out.trans (HPa.out.mono HB2.out.size))⟩, ?_⟩
          · rw [← HPRE.out, List.length_append]
            have := HLEN.out; have := HMX.out.2; have := HXL.out
            omega
          · have := HIM.out
            show m0 - ((i : Int) + 1).toNat < m0 - (i : Int).toNat
            omega
        · have t2 : ¬ (mx : Int) ≤ 1000 := by omega
          clear hxl hx hi
          go_wp2_with fail
          all_goals (go_ret; exact ⟨rfl, HB.out⟩)
      · have HIM : Aside0 (i = m0) := Aside0.mk (by omega)
        have t1 : (m0 : Int) ≤ (i : Int) := by omega
        clear hx hi
        go_wp2_with fail
        refine HSM.out.mono ?_
        rintro e w6 ⟨rfl, hB6⟩
        have HB6 : Aside0 (Below w.heap.size w w6) := Aside0.mk (HB.out.trans (hB6.mono HB.out.size))
        have HT6 := Aside0.mk (HT.out.below hB6)
        have HO6 := Aside0.mk (own_move HO5.out (w1 := w6) (fun q hq => hB6.block q (own_lt HO5.out q hq)))
        have hr6 := rsum_calls A5 k5 (pre l i) w6 (own_C HO6.out) (pre_bs l HBS.out i) (by have := HLEN.out; have := HM30.out; have := HIM.out; omega)
        rw [← HM5.out.2] at hr6
        have HR6 := Aside0.mk hr6
        clear hB6 HSM HT HO5 hr6
        go_wp2_with fail
        refine HR6.out.mono ?_
        rintro e w7 ⟨rfl, hB7⟩
        have HB7 : Aside0 (Below w.heap.size w w7) := Aside0.mk (HB6.out.trans (hB7.mono HB6.out.size))
        have HT7 := Aside0.mk (HT6.out.below hB7)
        have HO7 := Aside0.mk (own_move HO6.out (w1 := w7) (fun q hq => hB7.block q (own_lt HO6.out q hq)))
        have hln := took_len w7 h _ _ HT7.out
        rw [← HM5.out.1] at hln
        have HLN := Aside0.mk hln
        clear hB7 HR6 HT6 HO6 HB6 hln
        go_wp2_with fail
        refine HLN.out.mono ?_
        rintro e w8 ⟨rfl, rfl⟩
        clear HLN
        go_wp2
        go_ret
        exact ⟨rfl, HB7.out⟩
  · have p0 : ¬ (m0 : Int) ≤ 30 := by omega
    clear hbig
    go_enter Try.func4, Try.ntmps4
    go_wp2_with fail
    refine (up_calls w).mono ?_
    rintro e w1 ⟨rfl, hB1⟩
    go_wp2_with fail
    refine (took_new w1).mono ?_
    rintro e w2 ⟨h, rfl, hh, hT2, hB2⟩
    have HBa : Aside0 (Below w.heap.size w w2) := Aside0.mk (hB1.trans (hB2.mono hB1.size))
    clear hB1 hB2 hT2 hh
    go_wp2_with fail
    all_goals (go_ret; exact ⟨rfl, HBa.out⟩)
end Go.Proofs.Ytinjhmmbndonhaa.PShaSums
