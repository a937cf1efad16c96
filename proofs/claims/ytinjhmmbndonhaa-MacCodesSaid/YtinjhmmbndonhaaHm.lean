/- the example ahead of the laws of sha -/
import Derived.Test.YtinjhmmbndonhaaHl
import Derived.Lib.SlBytesConst
namespace Go.Proofs.Ytinjhmmbndonhaa.PShaSums
open Go.RowKit Go.Proofs.YtinjhmmbndonhaaW.PrintWords Go.Proofs.YtinjhmmbndonhaaW.PrintLast Go.Proofs.YtinjhmmbndonhaaW.PrintMore Go.Proofs.Ytinjhmmbndonhaa.Sha Go.Proofs.Ytinjhmmbndonhaa.Arr
attribute [local go_sem] max2_int min2_int max_two min_two max_three min_three max_four min_four
attribute [local go_sem high] u8_w
set_option linter.unusedVariables false
set_option linter.unusedSimpArgs false
theorem sum_abc : sum [97, 98, 99] = [186, 120, 22, 191, 143, 1, 207, 234, 65, 65, 64, 222, 93, 174, 34, 35, 176, 3, 97, 163, 150, 23, 122, 156, 180, 16, 255, 97, 242, 0, 21, 173] := by decide +kernel
theorem marked3 (w : World) (C : Array Value) (t : TypeId) (fr : Nat × Nat) (j : Nat) (v : Value) (h : C[j]? = some v) : (w.alloc (.cells C t fr)).cell? (Addr.add ⟨w.heap.size, 0, none⟩ j) = some v := by
  have e : Addr.add ⟨w.heap.size, 0, none⟩ j = ⟨w.heap.size, j, none⟩ := by rw [Addr.add_mid, Nat.zero_add]
  rw [e]
  have h0 : (w.alloc (.cells C t fr)).heap[w.heap.size]? = some (.cells C t fr) := heap_alloc_new w _
  simp only [World.cell?, h0]
  simpa using h
theorem bs_abc : Bs [97, 98, 99] := by
  intro i
  match i with
  | 0 => decide
  | 1 => decide
  | 2 => decide
  | n + 3 => exact Nat.zero_lt_succ _
theorem sum_up (w : World) (A : Option Addr) (k : Nat) (hC : Kd.C (Kd.int .u8) w A 3 [97, 98, 99]) : Calls Try.prog 10 #[.slice A 3 k] w fun e w' => e = .returned (.agg (ints .u8 [186, 120, 22, 191, 143, 1, 207, 234, 65, 65, 64, 222, 93, 174, 34, 35, 176, 3, 97, 163, 150, 23, 122, 156, 180, 16, 255, 97, 242, 0, 21, 173]).toArray) ∧ Below w.heap.size w w' := by
  have h := sum_calls A k [97, 98, 99] w hC bs_abc (by decide)
  rw [sum_abc] at h
  exact h
set_option maxHeartbeats 8000000 in
set_option maxRecDepth 100000 in
theorem up_calls (w : World) : Calls Try.prog 9 #[] w fun e w' => e = .returned (.bool true) ∧ Below w.heap.size w w' := by
  have kc := fun (w : World) (C : Array Value) (n c : Nat) => Lib.run_convert_bytes_const (P := Try.prog) w 22 5 C n c rfl rfl
  go_enter Try.func9, Try.ntmps9
  go_upto_region 1 with (fail)
  rename_i K0 hK0
  have hC : Kd.C (Kd.int .u8) (w.alloc (.cells #[.int .u8 97, .int .u8 98, .int .u8 99] 5 (3, 4))) (some ⟨w.heap.size, 0, none⟩) 3 [97, 98, 99] := by
    refine Kd.C_of_reads (d := (0 : Int)) ⟨rfl, by decide, fun _ => ⟨_, rfl, fun j hj => ?_⟩⟩
    match j, hj with
    | 0, _ => exact marked3 w _ _ _ 0 _ rfl
    | 1, _ => exact marked3 w _ _ _ 1 _ rfl
    | 2, _ => exact marked3 w _ _ _ 2 _ rfl
    | n + 3, h => exact absurd h (by show ¬ n + 3 < 3; omega)
  have HSU := Aside0.mk (sum_up _ _ 3 hC)
  clear hC
  apply wp_region_lit
  refine Go.Great.wpList_runTo rfl (some 3) rfl (.slice (some ⟨w.heap.size, 0, none⟩) 3 3) (w.alloc (.cells #[.int .u8 97, .int .u8 98, .int .u8 99] 5)) (by go_simp) ?_
  refine Go.Great.wpList_runTo rfl (some 4) rfl (.slice (some ⟨w.heap.size, 0, none⟩) 3 3) (w.alloc (.cells #[.int .u8 97, .int .u8 98, .int .u8 99] 5 (3, 4))) (by simp only [Act.put, List.setIfInBounds_toArray, List.set_cons_zero, List.set_cons_succ]; go_simp) ?_
  refine wpList_callR rfl (some 5) rfl 10 #[.slice (some ⟨w.heap.size, 0, none⟩) 3 3] (by simp only [Act.put, List.setIfInBounds_toArray, List.set_cons_zero, List.set_cons_succ]; go_simp) _ HSU.out ?_
  rintro e w2 ⟨rfl, hB2⟩
  refine ⟨_, rfl, ?_⟩
  have hB3 : Below w.heap.size w w2 := (below_alloc (Below.refl _ _) _).trans (hB2.mono (by simp))
  clear hB2 HSU kc
  generalize hD : ([186, 120, 22, 191, 143, 1, 207, 234, 65, 65, 64, 222, 93, 174, 34, 35, 176, 3, 97, 163, 150, 23, 122, 156, 180, 16, 255, 97, 242, 0, 21, 173] : List Int) = D
  have hDl : D.length = 32 := by rw [← hD]; rfl
  have hD0 : rd D (0 : Nat) = 186 := by rw [← hD]; rfl
  have hD1 : rd D (1 : Nat) = 120 := by rw [← hD]; rfl
  have hD31 : rd D (31 : Nat) = 173 := by rw [← hD]; rfl
  clear hD
  have hl1 : (ints .u8 D).length = 32 := by rw [ints_length, hDl]
  refine Go.Great.wpList_allocTo rfl (some 1) rfl _ (.cells (ints .u8 (cN z32)).toArray 25) rfl ?_
  have hA := Arr.new w2 .u8 25 (cN z32)
  have hB4 : Below w.heap.size w (w2.alloc (.cells (ints .u8 (cN z32)).toArray 25)) := hB3.alloc hB3.size _
  have hsz := hB3.size
  generalize w2.alloc (.cells (ints .u8 (cN z32)).toArray 25) = w3 at *
  refine wpList_store_mid rfl 25 (.tmp 1) (.tmp 5) rfl w2.heap.size 0 (ints .u8 D).toArray rfl rfl (hA.there (by rw [List.size_toArray, hl1]; rfl)) (by rw [List.size_toArray, hl1]; rfl) (all_oneCell_toArray (ints_one _ _)) ?_
  have hA2 := hA.setCells (ys := D) (by rw [cN_length, hDl]; rfl)
  have hB5 := below_setCells hsz (ints .u8 D) 0 w3 hB4
  apply wpList_nil
  refine hK0 _ _ ?_
  rw [List.toList_toArray]
  generalize w3.setCells w2.heap.size 0 (ints .u8 D) = w4 at *
  generalize w2.heap.size = g0 at *
  have HA := Aside0.mk hA2
  have HB := Aside0.mk hB5
  have HD := Aside0.mk (And.intro hDl (And.intro hD0 (And.intro hD1 hD31)))
  clear hA hA2 hB3 hB4 hB5 hsz hl1 hDl hD0 hD1 hD31 hK0 K0
  go_wp2_with fail
  refine (new_calls w4).mono ?_
  rintro e w5 ⟨g2, rfl, hg2, hH2, hB2⟩
  have hA5 := HA.out.below hB2 HA.out.size
  have hB6 := HB.out.trans (hB2.mono HB.out.size)
  have c0 := hA5.cell 0 (by rw [HD.out.1]; decide)
  have c1 := hA5.cell 1 (by rw [HD.out.1]; decide)
  have c31 := hA5.cell 31 (by rw [HD.out.1]; decide)
  rw [HD.out.2.1] at c0
  rw [HD.out.2.2.1] at c1
  rw [HD.out.2.2.2] at c31
  have HLN := Aside0.mk (len_calls w5 g2 0 IV [] _ hH2)
  have HB6 := Aside0.mk hB6
  clear hA5 hB6 hH2 hB2 hg2
  go_wp2_with fail
  refine HLN.out.mono ?_
  rintro e w6 ⟨rfl, rfl⟩
  go_wp2_with fail
  go_ret
  exact ⟨rfl, HB6.out⟩
end Go.Proofs.Ytinjhmmbndonhaa.PShaSums
