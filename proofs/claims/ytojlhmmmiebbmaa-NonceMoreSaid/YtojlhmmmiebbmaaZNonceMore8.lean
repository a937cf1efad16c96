/- What the proof of NonceMore is made of, part 8. -/
import Derived.Test.YtojlhmmmiebbmaaZNonceMore7
import Derived.Great.BuildSlice
namespace Go.Proofs.Ytojlhmmmiebbmaa.PNonceLists
open Go.RowKit Go.Proofs.YtojlhmmmiebbmaaW.PrintWords Go.Proofs.YtojlhmmmiebbmaaW.PrintLast Go.Proofs.YtojlhmmmiebbmaaW.PrintMore Go.Proofs.Ytojlhmmmiebbmaa.Sha Go.Proofs.Ytojlhmmmiebbmaa.Arr
attribute [local go_sem] max2_int min2_int max_two min_two max_three min_three max_four min_four
attribute [local go_sem high] u8_w
set_option linter.unusedVariables false
set_option linter.unusedSimpArgs false
set_option maxHeartbeats 4000000 in
set_option maxRecDepth 100000 in
theorem constants_calls (w : World) :
    Calls Try.prog 54 #[] w fun e w' => e = .returned (.agg (ints .u32 (cN Ks)).toArray) ∧ Below w.heap.size w w' := by
  go_enter Try.func54, Try.ntmps54
  go_upto_region 1 with (fail)
  refine wp_at (w2 := (w.alloc (.cells (ints .u32 (cN z64)).toArray 92))) rfl ?_
  have hA0 : Arr .u32 92 (w.alloc (.cells (ints .u32 (cN z64)).toArray 92)) w.heap.size (cN z64) := Arr.new w .u32 _ _
  have hB : Below w.heap.size w (w.alloc (.cells (ints .u32 (cN z64)).toArray 92)) := below_alloc (Below.refl _ _) _
  generalize w.alloc (.cells (ints .u32 (cN z64)).toArray 92) = w1 at *
  rename_i K0 hK0
  have hK : (cN Ks).length = 64 := rfl
  have hl1 : (ints .u32 (cN Ks)).length = 64 := rfl
  apply wp_region_lit
  refine wpList_buildFlatArrTo rfl 92 79 64 _ rfl .u32 (cN Ks) _ rfl rfl rfl (by kernel_rfl) (by kernel_rfl) ?_
  have hA2 := hA0.setCells (ys := cN Ks) rfl
  have hB2 := below_setCells (Nat.le_refl w.heap.size) (ints .u32 (cN Ks)) 0 w1 hB
  change wpList _ _ _ _ (Act.put _ _ (.agg (ints .u32 (cN Ks)).toArray)) _
  generalize hZ : cN Ks = Z at *
  have HZ := Aside0.mk hZ
  clear hZ
  refine wpList_store_mid rfl 92 (.tmp 0) (.tmp 1) rfl _ 0 (ints .u32 Z).toArray rfl rfl (hA0.there (by rw [List.size_toArray, hl1]; rfl)) (by rw [List.size_toArray, hl1]; rfl) (all_oneCell_toArray (ints_one _ _)) ?_
  apply wpList_nil
  refine hK0 _ _ ?_
  rw [List.toList_toArray]
  generalize w1.setCells w.heap.size 0 (ints .u32 Z) = w3 at *
  go_wp2
  refine bodyPost_ret (v := .agg (ints .u32 Z).toArray) ?_ rfl ⟨by rw [HZ.out], hB2⟩
  exact results_cell_row rfl _ _ w.heap.size 92 (ints .u32 Z).toArray (0, 0) _ rfl hA2 rfl rfl (by rw [List.size_toArray, hl1]; rfl)
end Go.Proofs.Ytojlhmmmiebbmaa.PNonceLists
