/- The walk of ShaTwins. -/
import Derived.Test.YtinjhmmbndonhaaHo
namespace Go.Proofs.Ytinjhmmbndonhaa.PShaSums
open Go.RowKit Go.Proofs.YtinjhmmbndonhaaW.PrintWords Go.Proofs.YtinjhmmbndonhaaW.PrintLast Go.Proofs.YtinjhmmbndonhaaW.PrintMore Go.Proofs.Ytinjhmmbndonhaa.Sha Go.Proofs.Ytinjhmmbndonhaa.Arr
attribute [local go_sem] max2_int min2_int max_two min_two max_three min_three max_four min_four
attribute [local go_sem high] u8_w
set_option linter.unusedVariables false
set_option linter.unusedSimpArgs false
theorem eql_sum (xs ys : List Nat) (w : World) : (binOp .eql 25 (.agg (ints .u8 (cN (sum xs))).toArray) (.agg (ints .u8 (cN (sum ys))).toArray)).run Try.prog w = .ok (.bool (decide (sum xs = sum ys))) w := eql_dig _ _ (sum_length xs) (sum_length ys) w
attribute [local go_sem high] eql_sum
set_option maxHeartbeats 8000000 in
set_option maxRecDepth 100000 in
theorem twins_calls (A0 A1 A2 : Option Addr) (k0 k1 k2 : Nat) (a b c : List Nat) (w : World) (hr0 : Kd.C (Kd.int .u8) w A0 (cN a).length (cN a)) (hr1 : Kd.C (Kd.int .u8) w A1 (cN b).length (cN b)) (hr2 : Kd.C (Kd.int .u8) w A2 (cN c).length (cN c))
    (hb0 : Bs a) (hb1 : Bs b) (hb2 : Bs c) :
    Calls Try.prog 6 #[.slice A0 (cN a).length k0, .slice A1 (cN b).length k1, .slice A2 (cN c).length k2] w fun e w' => e = .returned (.bool true) ∧ Below w.heap.size w w' := by
  obtain ⟨m0, hm0⟩ : ∃ m, m = (cN a).length := ⟨_, rfl⟩
  obtain ⟨m1, hm1⟩ : ∃ m, m = (cN b).length := ⟨_, rfl⟩
  obtain ⟨m2, hm2⟩ : ∃ m, m = (cN c).length := ⟨_, rfl⟩
  have HR0 := Aside0.mk hr0
  have HR1 := Aside0.mk hr1
  have HR2 := Aside0.mk hr2
  have HBS := Aside0.mk (And.intro hb0 (And.intro hb1 hb2))
  have HM := Aside0.mk (And.intro hm0 (And.intro hm1 hm2))
  rw [← hm0, ← hm1, ← hm2]
  clear hr0 hr1 hr2 hb0 hb1 hb2
  by_cases hbig : m0 ≤ 2000 ∧ m1 ≤ 2000 ∧ m2 ≤ 2000
  · obtain ⟨l0, l1, l2⟩ := hbig
    have p0 : (m0 : Int) ≤ 2000 := by omega
    have p1 : (m1 : Int) ≤ 2000 := by omega
    have p2 : (m2 : Int) ≤ 2000 := by omega
    have HLN : Aside0 (a.length ≤ 2000 ∧ b.length ≤ 2000 ∧ c.length ≤ 2000 ∧ m0 = a.length ∧ m1 = b.length ∧ m2 = c.length) := Aside0.mk (by simp only [cN_length] at hm0 hm1 hm2; omega)
    clear hm0 hm1 hm2 l0 l1 l2
    go_enter Try.func6, Try.ntmps6
    go_wp2_with fail
    refine (up_calls w).mono ?_
    rintro e w1 ⟨rfl, hB1⟩
    go_wp2_with fail
    refine (took_new w1).mono ?_
    rintro e w2 ⟨h, rfl, hh, hT2, hB2⟩
    have HBa : Aside0 (Below w.heap.size w w2) := Aside0.mk (hB1.trans (hB2.mono hB1.size))
    have HH : Aside0 (w.heap.size ≤ h) := Aside0.mk (Nat.le_trans hB1.size hh)
    have HT2 := Aside0.mk hT2
    have HW := Aside0.mk (took_write A0 k0 a w2 h [] _ hT2 (Kd.C_below HR0.out HBa.out) HBS.out.1 (old_row HR0.out HH.out) (by have := HLN.out.1; show 0 + _ ≤ _; omega))
    have HW := Aside0.mk (by have h := HW.out; rw [← HM.out.1] at h; exact h)
    clear hB1 hB2 hT2 hh
    go_wp2_with fail
    refine HW.out.mono ?_
    rintro e w3 ⟨rfl, v3, hT3, hk3, hat3⟩
    rw [List.nil_append] at hT3
    have HBb : Aside0 (Below w.heap.size w w3) := Aside0.mk (HBa.out.trans (hk3.below HH.out (fun k hk => by cases hk) HBa.out.size))
    have HV3 : Aside0 (∀ k, v3.ownBlock = some k → w.heap.size ≤ k) := Aside0.mk (by
      intro k hk
      have h1 := HBa.out.size
      rcases hat3 with e | ⟨q, e, hq⟩
      · rw [e] at hk; cases hk
      · rw [e] at hk
        injection hk with hk
        omega)
    have HT3 := Aside0.mk hT3
    clear hT3 hk3 hat3 HT2 HW
    go_wp2_with fail
    refine (took_clone w3 h a v3 HT3.out).mono ?_
    rintro e w4 ⟨g, rfl, hg, v4, hT4, hf4, hB4⟩
    have HBc : Aside0 (Below w.heap.size w w4) := Aside0.mk (HBb.out.trans (hB4.mono HBb.out.size))
    have HTh := Aside0.mk (HT3.out.below hB4)
    have HTg := Aside0.mk hT4
    have HGH : Aside0 (h ≠ g) := Aside0.mk (by have := HT3.out.size; omega)
    have HG : Aside0 (w.heap.size ≤ g) := Aside0.mk (Nat.le_trans HBb.out.size hg)
    have HV4 : Aside0 (∀ k, v4.ownBlock = some k → w3.heap.size ≤ k) := Aside0.mk hf4
    have HW5 := took_write A1 k1 b w4 h a v3 HTh.out (Kd.C_below HR1.out HBc.out) HBS.out.2.1 (old_row HR1.out HH.out) (by have := HLN.out.1; have := HLN.out.2.1; omega)
    rw [← HM.out.2.1] at HW5
    have HW := Aside0.mk HW5
    clear HW5 hT4 hf4 hB4 hg
    go_wp2_with fail
    refine HW.out.mono ?_
    rintro e w5 ⟨rfl, v5, hT5, hk5, hat5⟩
    have HBd : Aside0 (Below w.heap.size w w5) := Aside0.mk (HBc.out.trans (hk5.below HH.out HV3.out HBc.out.size))
    have HTg5 : Aside0 (Took w5 g a v4) := Aside0.mk (HTg.out.kept HTh.out hk5 HGH.out.symm (fun j hj e => by
      have h1 := HV4.out j hj
      have h2 := HT3.out.lt j e.symm
      omega))
    have HV5 : Aside0 (∀ j, v5.ownBlock = some j → some j ≠ v4.ownBlock) := Aside0.mk (by
      intro j hj e
      have h1 := HV4.out j e.symm
      have h2 := HTg.out.lt j e.symm
      rcases hat5 with e5 | ⟨q, e5, hq⟩
      · rw [e5] at hj
        have h3 := HT3.out.lt j hj
        omega
      · rw [e5] at hj
        injection hj with hj
        omega)
    have HTh5 := Aside0.mk hT5
    have HW6 := took_write A2 k2 c w5 g a v4 HTg5.out (Kd.C_below HR2.out HBd.out) HBS.out.2.2 (old_row HR2.out HG.out) (by have := HLN.out.1; have := HLN.out.2.2.1; omega)
    rw [← HM.out.2.2] at HW6
    have HW := Aside0.mk HW6
    clear HW6 hT5 hk5 hat5
    go_wp2_with fail
    refine HW.out.mono ?_
    rintro e w6 ⟨rfl, v6, hT6, hk6, hat6⟩
    have HBe : Aside0 (Below w.heap.size w w6) := Aside0.mk (HBd.out.trans (hk6.below HG.out (fun k hk => Nat.le_trans HBb.out.size (HV4.out k hk)) HBd.out.size))
    have HTh6 : Aside0 (Took w6 h (a ++ b) v5) := Aside0.mk (HTh5.out.kept HTg5.out hk6 HGH.out HV5.out)
    have HTg6 := Aside0.mk hT6
    have HLab : Aside0 ((a ++ b).length ≤ 4000 ∧ (a ++ c).length ≤ 4000) := Aside0.mk (by have := HLN.out; rw [List.length_append, List.length_append]; omega)
    clear hT6 hk6 hat6 HT3 HTh HTg HTg5 HTh5 HV3 HV4 HV5 HW
    go_wp2_with fail
    refine (took_sum w6 h _ _ HTh6.out (by have := HLab.out.1; omega)).mono ?_
    rintro e w7 ⟨rfl, hB7⟩
    have HBf : Aside0 (Below w.heap.size w w7) := Aside0.mk (HBe.out.trans (hB7.mono HBe.out.size))
    have HTh7 := Aside0.mk (HTh6.out.below hB7)
    have HTg7 := Aside0.mk (HTg6.out.below hB7)
    clear hB7 HTh6 HTg6
    have HO8 : Aside0 ((w7.alloc (.cells #[] 5)).ownsRow w7.heap.size 5 1 (.slice (some ⟨w7.heap.size, 0, none⟩) 0 0) ([] : List Int).length (nums .u8 [])) := Aside0.mk (own_lit w7 w7.heap.size 5 .u8 [] (Nat.le_refl _) (by simp))
    have HP8 : Aside0 (Below w7.heap.size w7 (w7.alloc (.cells #[] 5))) := Aside0.mk (below_alloc (Below.refl _ _) _)
    have HQ8 : Aside0 (Kd.C (Kd.int .u8) (w7.alloc (.cells #[] 5)) A0 m0 (cN a)) := Aside0.mk (by rw [HM.out.1]; exact Kd.C_below HR0.out (HBf.out.trans (HP8.out.mono HBf.out.size)))
    have HL8 : Aside0 ((([] : List Int).length + m0) * 1 ≤ 140737488355328) := Aside0.mk (by have := HLN.out; show (0 + m0) * 1 ≤ _; omega)
    have HM8 : Aside0 ((([] ++ cN a).length + m1) * 1 ≤ 140737488355328) := Aside0.mk (by have := HLN.out; rw [List.nil_append, cN_length]; omega)
    go_wp2_with (first
      | ((with_reducible refine gate_dst (N := 53) rfl ?_); refine wpList_step (fun K hK => ?_); refine Kd.R_append_rows_step (Kd.int .u8) (w0 := w7) w7.heap.size (by rfl) (.tmp 51) (.tmp 52) 22 5 (.int .u8 0) 1 rfl rfl rfl rfl (by decide) (by omega) (.slice (some ⟨w7.heap.size, 0, none⟩) 0 0) [] (cN a) A0 m0 k0 (fun _ => True) (fun _ => False) rfl rfl (Kd.R_of_own HO8.out (fun _ _ => trivial)) HQ8.out (fun _ _ h => h) (fun _ h => h.elim) (fun _ _ => trivial) HP8.out HP8.out.size HL8.out ?_; intro v8 w8 ho hb hg hat; refine hK _ _ ?_; clear hg hat hK K; have HO28 := Aside0.mk ho; have HP28 := Aside0.mk hb; have HQ28 : Aside0 (Kd.C (Kd.int .u8) w8 A1 m1 (cN b)) := Aside0.mk (by rw [HM.out.2.1]; exact Kd.C_below HR1.out (HBf.out.trans (HP28.out.mono HBf.out.size))); clear ho hb)
      | ((with_reducible refine gate_dst (N := 55) rfl ?_); refine wpList_step (fun K hK => ?_); refine Kd.R_append_rows_step (Kd.int .u8) (w0 := w7) w7.heap.size (by rfl) (.tmp 53) (.tmp 54) 22 5 (.int .u8 0) 1 rfl rfl rfl rfl (by decide) (by omega) v8 ([] ++ cN a) (cN b) A1 m1 k1 (fun _ => True) (fun _ => False) rfl rfl HO28.out HQ28.out (fun _ _ h => h) (fun _ h => h.elim) (fun _ _ => trivial) HP28.out HP28.out.size HM8.out ?_; intro v28 w28 ho hb hg hat; refine hK _ _ ?_; clear hg hat hK K; obtain ⟨A8, k8, e8⟩ := own_slice (Kd.own_of_R ho); subst e8; have HO38 := Aside0.mk (Kd.own_of_R ho); have HP38 := Aside0.mk hb; clear ho hb))
    have hC8 : Kd.C (Kd.int .u8) w28 A8 (cN (a ++ b)).length (cN (a ++ b)) := by
      obtain ⟨A9, c9, e9, h9⟩ := own_reads_of (enc := Value.int .u8) (d := (0 : Int)) HO38.out
      injection e9 with e1 e2 e3
      rw [e1]
      have h10 := Kd.C_of_reads (h1 := fun _ => rfl) h9
      rw [List.nil_append, ← cN_append] at h10
      exact h10
    have hsu := sum_calls A8 k8 (a ++ b) w28 hC8 (HBS.out.1.append HBS.out.2.1) (by have := HLab.out.1; omega)
    rw [show (cN (a ++ b)).length = (cN a).length + (cN b).length by rw [cN_append, List.length_append]] at hsu
    have HSU := Aside0.mk hsu
    have HBg : Aside0 (Below w.heap.size w w28) := Aside0.mk (HBf.out.trans (HP38.out.mono HBf.out.size))
    have HTh9 := Aside0.mk (HTh7.out.below HP38.out)
    have HTg9 := Aside0.mk (HTg7.out.below HP38.out)
    clear hC8 hsu HO8 HP8 HQ8 HL8 HM8 HO28 HP28 HQ28 HO38 HP38 HTh7 HTg7
    refine HSU.out.mono ?_
    clear HSU
    rintro e w10 ⟨rfl, hB10⟩
    have HBh : Aside0 (Below w.heap.size w w10) := Aside0.mk (HBg.out.trans (hB10.mono HBg.out.size))
    have HTh10 := Aside0.mk (HTh9.out.below hB10)
    have HTg10 := Aside0.mk (HTg9.out.below hB10)
    clear hB10 HTh9 HTg9
    go_wp2_with fail
    refine (took_sum w10 g _ _ HTg10.out (by have := HLab.out.2; omega)).mono ?_
    rintro e w11 ⟨rfl, hB11⟩
    have HBi : Aside0 (Below w.heap.size w w11) := Aside0.mk (HBh.out.trans (hB11.mono HBh.out.size))
    have HTh11 := Aside0.mk (HTh10.out.below hB11)
    have HTg11 := Aside0.mk (HTg10.out.below hB11)
    clear hB11 HTh10 HTg10
    have HO12 : Aside0 ((w11.alloc (.cells #[] 5)).ownsRow w11.heap.size 5 1 (.slice (some ⟨w11.heap.size, 0, none⟩) 0 0) ([] : List Int).length (nums .u8 [])) := Aside0.mk (own_lit w11 w11.heap.size 5 .u8 [] (Nat.le_refl _) (by simp))
    have HP12 : Aside0 (Below w11.heap.size w11 (w11.alloc (.cells #[] 5))) := Aside0.mk (below_alloc (Below.refl _ _) _)
    have HQ12 : Aside0 (Kd.C (Kd.int .u8) (w11.alloc (.cells #[] 5)) A0 m0 (cN a)) := Aside0.mk (by rw [HM.out.1]; exact Kd.C_below HR0.out (HBi.out.trans (HP12.out.mono HBi.out.size)))
    have HL12 : Aside0 ((([] : List Int).length + m0) * 1 ≤ 140737488355328) := Aside0.mk (by have := HLN.out; show (0 + m0) * 1 ≤ _; omega)
    have HM12 : Aside0 ((([] ++ cN a).length + m2) * 1 ≤ 140737488355328) := Aside0.mk (by have := HLN.out; rw [List.nil_append, cN_length]; omega)
    go_wp2_with (first
      | ((with_reducible refine gate_dst (N := 64) rfl ?_); refine wpList_step (fun K hK => ?_); refine Kd.R_append_rows_step (Kd.int .u8) (w0 := w11) w11.heap.size (by rfl) (.tmp 62) (.tmp 63) 22 5 (.int .u8 0) 1 rfl rfl rfl rfl (by decide) (by omega) (.slice (some ⟨w11.heap.size, 0, none⟩) 0 0) [] (cN a) A0 m0 k0 (fun _ => True) (fun _ => False) rfl rfl (Kd.R_of_own HO12.out (fun _ _ => trivial)) HQ12.out (fun _ _ h => h) (fun _ h => h.elim) (fun _ _ => trivial) HP12.out HP12.out.size HL12.out ?_; intro v12 w12 ho hb hg hat; refine hK _ _ ?_; clear hg hat hK K; have HO212 := Aside0.mk ho; have HP212 := Aside0.mk hb; have HQ212 : Aside0 (Kd.C (Kd.int .u8) w12 A2 m2 (cN c)) := Aside0.mk (by rw [HM.out.2.2]; exact Kd.C_below HR2.out (HBi.out.trans (HP212.out.mono HBi.out.size))); clear ho hb)
      | ((with_reducible refine gate_dst (N := 66) rfl ?_); refine wpList_step (fun K hK => ?_); refine Kd.R_append_rows_step (Kd.int .u8) (w0 := w11) w11.heap.size (by rfl) (.tmp 64) (.tmp 65) 22 5 (.int .u8 0) 1 rfl rfl rfl rfl (by decide) (by omega) v12 ([] ++ cN a) (cN c) A2 m2 k2 (fun _ => True) (fun _ => False) rfl rfl HO212.out HQ212.out (fun _ _ h => h) (fun _ h => h.elim) (fun _ _ => trivial) HP212.out HP212.out.size HM12.out ?_; intro v212 w212 ho hb hg hat; refine hK _ _ ?_; clear hg hat hK K; obtain ⟨A12, k12, e12⟩ := own_slice (Kd.own_of_R ho); subst e12; have HO312 := Aside0.mk (Kd.own_of_R ho); have HP312 := Aside0.mk hb; clear ho hb))
    have hC12 : Kd.C (Kd.int .u8) w212 A12 (cN (a ++ c)).length (cN (a ++ c)) := by
      obtain ⟨A9, c9, e9, h9⟩ := own_reads_of (enc := Value.int .u8) (d := (0 : Int)) HO312.out
      injection e9 with e1 e2 e3
      rw [e1]
      have h10 := Kd.C_of_reads (h1 := fun _ => rfl) h9
      rw [List.nil_append, ← cN_append] at h10
      exact h10
    have hsu := sum_calls A12 k12 (a ++ c) w212 hC12 (HBS.out.1.append HBS.out.2.2) (by have := HLab.out.2; omega)
    rw [show (cN (a ++ c)).length = (cN a).length + (cN c).length by rw [cN_append, List.length_append]] at hsu
    have HSU := Aside0.mk hsu
    have HBj : Aside0 (Below w.heap.size w w212) := Aside0.mk (HBi.out.trans (HP312.out.mono HBi.out.size))
    have HTh12 := Aside0.mk (HTh11.out.below HP312.out)
    have HTg12 := Aside0.mk (HTg11.out.below HP312.out)
    clear hC12 hsu HO12 HP12 HQ12 HL12 HM12 HO212 HP212 HQ212 HO312 HP312 HTh11 HTg11
    refine HSU.out.mono ?_
    clear HSU
    rintro e w13 ⟨rfl, hB13⟩
    have HBk : Aside0 (Below w.heap.size w w13) := Aside0.mk (HBj.out.trans (hB13.mono HBj.out.size))
    have HTh13 := Aside0.mk (HTh12.out.below hB13)
    have HTg13 := Aside0.mk (HTg12.out.below hB13)
    clear hB13 HTh12 HTg12
    go_wp2_with fail
    obtain ⟨N1, hN1⟩ : ∃ N, N = (a ++ b).length := ⟨_, rfl⟩
    obtain ⟨N2, hN2⟩ : ∃ N, N = (a ++ c).length := ⟨_, rfl⟩
    have q1 : wrap64 ((m0 : Int) + (m1 : Int)) = (N1 : Int) := by have := HLN.out; rw [List.length_append] at hN1; unfold wrap64; omega
    have q2 : wrap64 ((m0 : Int) + (m2 : Int)) = (N2 : Int) := by have := HLN.out; rw [List.length_append] at hN2; unfold wrap64; omega
    have q3 : ((N1 : Int) == (m0 : Int) + (m1 : Int)) = true := by have := HLN.out; rw [List.length_append] at hN1; simp; omega
    have q4 : ((N2 : Int) == (m0 : Int) + (m2 : Int)) = true := by have := HLN.out; rw [List.length_append] at hN2; simp; omega
    have hln1 := took_len w13 h _ _ HTh13.out
    have hln2 := took_len w13 g _ _ HTg13.out
    rw [← hN1] at hln1
    rw [← hN2] at hln2
    have HN1 := Aside0.mk hln1
    have HN2 := Aside0.mk hln2
    clear hN1 hN2 hln1 hln2
    refine HN1.out.mono ?_
    rintro e w14 ⟨rfl, rfl⟩
    go_wp2_with fail
    refine HN2.out.mono ?_
    rintro e w15 ⟨rfl, rfl⟩
    go_wp2_with fail
    go_ret
    exact ⟨rfl, HBk.out⟩
  · go_enter Try.func6, Try.ntmps6
    have hbig' : (decide (2000 < (m0 : Int)) || decide (2000 < (m1 : Int)) || decide (2000 < (m2 : Int))) = true := by simp; omega
    clear hm0 hm1 hm2 hbig
    go_wp2_with fail
    refine (up_calls w).mono ?_
    rintro e w1 ⟨rfl, hB1⟩
    go_wp2_with fail
    refine (took_new w1).mono ?_
    rintro e w2 ⟨h, rfl, hh, hT2, hB2⟩
    have HBa : Aside0 (Below w.heap.size w w2) := Aside0.mk (hB1.trans (hB2.mono hB1.size))
    clear hB1 hB2 hT2 hh
    go_wp2_with fail
    all_goals (go_ret; exact ⟨rfl, HBa.out⟩)
end Go.Proofs.Ytinjhmmbndonhaa.PShaSums
