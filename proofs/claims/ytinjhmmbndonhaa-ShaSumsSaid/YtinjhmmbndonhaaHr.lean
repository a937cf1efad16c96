/- The walk of ShaSums. -/
import Derived.Test.YtinjhmmbndonhaaHo
import Derived.Test.YtinjhmmbndonhaaRu
namespace Go.Proofs.Ytinjhmmbndonhaa.PShaSums
open Go.RowKit Go.Proofs.YtinjhmmbndonhaaW.PrintWords Go.Proofs.YtinjhmmbndonhaaW.PrintLast Go.Proofs.YtinjhmmbndonhaaW.PrintMore Go.Proofs.Ytinjhmmbndonhaa.Sha Go.Proofs.Ytinjhmmbndonhaa.Arr
attribute [local go_sem] max2_int min2_int max_two min_two max_three min_three max_four min_four
attribute [local go_sem high] u8_w
set_option linter.unusedVariables false
set_option linter.unusedSimpArgs false
theorem eql_sum'' (xs ys : List Nat) (w : World) : (binOp .eql 25 (.agg (ints .u8 (cN (sum xs))).toArray) (.agg (ints .u8 (cN (sum ys))).toArray)).run Try.prog w = .ok (.bool (decide (sum xs = sum ys))) w := eql_dig _ _ (sum_length xs) (sum_length ys) w
attribute [local go_sem high] eql_sum''
set_option maxHeartbeats 8000000 in
set_option maxRecDepth 100000 in
theorem sums_calls (A0 : Option Addr) (k0 : Nat) (b : List Nat) (w : World) (hr0 : Kd.C (Kd.int .u8) w A0 (cN b).length (cN b)) (hb0 : Bs b) :
    Calls Try.prog 3 #[.slice A0 (cN b).length k0] w fun e w' => e = .returned (.bool true) ∧ Below w.heap.size w w' := by
  obtain ⟨m0, hm0⟩ : ∃ m, m = (cN b).length := ⟨_, rfl⟩
  have HR0 := Aside0.mk hr0
  have HBS := Aside0.mk hb0
  have HM := Aside0.mk hm0
  have HMB : Aside0 (m0 = b.length) := Aside0.mk (by rw [hm0, cN_length])
  rw [← hm0]
  clear hr0 hb0 hm0
  by_cases hbig : m0 ≤ 5000
  · have p0 : (m0 : Int) ≤ 5000 := by omega
    have HLN : Aside0 (b.length ≤ 5000) := Aside0.mk (by have := HMB.out; omega)
    clear hbig
    go_enter Try.func3, Try.ntmps3
    go_wp2_with fail
    refine (up_calls w).mono ?_
    rintro e w1 ⟨rfl, hB1⟩
    have HB1 := Aside0.mk hB1
    have h1 := sum_calls A0 k0 b w1 (Kd.C_below HR0.out hB1) HBS.out (by have := HLN.out; omega)
    rw [← HM.out] at h1
    have H1 := Aside0.mk h1
    clear hB1 h1
    go_wp2_with fail
    refine H1.out.mono ?_
    rintro e w2 ⟨rfl, hB2⟩
    have HB2 : Aside0 (Below w.heap.size w w2) := Aside0.mk (HB1.out.trans (hB2.mono HB1.out.size))
    have h2 := rsum_calls A0 k0 b w2 (Kd.C_below HR0.out HB2.out) HBS.out (by have := HLN.out; omega)
    rw [← HM.out] at h2
    have H2 := Aside0.mk h2
    clear hB2 h2 H1 HB1
    go_wp2_with fail
    refine H2.out.mono ?_
    rintro e w3 ⟨rfl, hB3⟩
    have HB3 : Aside0 (Below w.heap.size w w3) := Aside0.mk (HB2.out.trans (hB3.mono HB2.out.size))
    clear hB3 H2 HB2
    go_wp2
    go_ret
    exact ⟨rfl, HB3.out⟩
  · have p0 : ¬ (m0 : Int) ≤ 5000 := by omega
    clear hbig
    go_enter Try.func3, Try.ntmps3
    go_wp2_with fail
    refine (up_calls w).mono ?_
    rintro e w1 ⟨rfl, hB1⟩
    have HB1 := Aside0.mk hB1
    clear hB1
    go_wp2_with fail
    all_goals (go_ret; exact ⟨rfl, HB1.out⟩)
end Go.Proofs.Ytinjhmmbndonhaa.PShaSums
