/- The example ahead of the laws of mac. -/
import Derived.Test.YtinjhmmbndonhaaMc
namespace Go.Proofs.Ytinjhmmbndonhaa.PShaSums
open Go.RowKit Go.Proofs.YtinjhmmbndonhaaW.PrintWords Go.Proofs.YtinjhmmbndonhaaW.PrintLast Go.Proofs.YtinjhmmbndonhaaW.PrintMore Go.Proofs.Ytinjhmmbndonhaa.Sha Go.Proofs.Ytinjhmmbndonhaa.Arr
attribute [local go_sem] max2_int min2_int max_two min_two max_three min_three max_four min_four
attribute [local go_sem high] u8_w
set_option linter.unusedVariables false
set_option linter.unusedSimpArgs false
theorem const_C (w : World) (C : List Nat) (t : TypeId) (fr : Nat × Nat) (hl : C.length ≤ 9223372036854775807) : Kd.C (Kd.int .u8) (w.alloc (.cells (ints .u8 (cN C)).toArray t fr)) (some ⟨w.heap.size, 0, none⟩) (cN C).length (cN C) :=
  Kd.C_of_reads (enc := Value.int .u8) (d := (0 : Int)) (h1 := fun _ => rfl) ⟨rfl, by rw [cN_length]; exact hl, fun _ => ⟨_, rfl, fun j hj => marked3 w _ t fr j _ (by rw [List.getElem?_toArray, ints_get _ _ _ hj]; unfold rd; rw [Int.toNat_natCast])⟩⟩
/-- a row of rows, of its cells -/
theorem rows_mk {w : World} {g : Nat} {T : TypeId} (l : List (List Nat)) (vs : List Value) (hc : w.heap[g]? = some (.cells vs.toArray T (0, 0)))
    (hv : ∀ (i : Nat) (x : List Nat), l[i]? = some x → ∃ A c, vs[i]? = some (.slice A (cN x).length c) ∧ (cN x).length ≤ c ∧ Kd.C (Kd.int .u8) w A (cN x).length (cN x)) (hl : l.length ≤ 9223372036854775807) :
    Kd.C (Kd.slice 5 (Kd.int .u8)) w (some ⟨g, 0, none⟩) (l.map cN).length (l.map cN) := by
  refine ⟨rfl, by rw [List.length_map]; exact hl, fun _ => ⟨⟨g, 0, none⟩, rfl, fun j p hp => ?_⟩⟩
  rw [List.getElem?_map] at hp
  cases hx : l[j]? with
  | none => rw [hx] at hp; cases hp
  | some x =>
    rw [hx] at hp
    injection hp with hp
    subst hp
    obtain ⟨A, c, h1, h2, h3⟩ := hv j x hx
    refine ⟨[.slice A (cN x).length c], rfl, ⟨A, c, rfl, h2, h3⟩, fun i u hu => ?_⟩
    match i with
    | 0 =>
      injection hu with hu
      subst hu
      rw [show (⟨g, 0, none⟩ : Addr).add (j * (Kd.slice 5 (Kd.int IntKind.u8)).sz + 0) = ⟨g, j, none⟩ by rw [Addr.add_mid]; show (⟨g, 0 + (j * 1 + 0), none⟩ : Addr) = _; congr 1; omega]
      simp only [World.cell?, hc]
      simpa using h1
    | n + 1 => cases hu
set_option maxHeartbeats 8000000 in
set_option maxRecDepth 100000 in
theorem up4_calls (w : World) : Calls Try.prog 17 #[] w fun e w' => e = .returned (.bool true) ∧ Below w.heap.size w w' := by
  have kc := fun (w : World) (C : Array Value) (n c : Nat) => Lib.run_convert_bytes_const (P := Try.prog) w 22 5 C n c rfl rfl
  go_enter Try.func17, Try.ntmps17
  go_upto_region 1 with (fail)
  rename_i K0 hK0
  apply wp_region_lit
  have HB0 := Aside0.mk (Below.refl w.heap.size w)
  refine Go.Great.wpList_runTo rfl (some 2) rfl (.slice (some ⟨w.heap.size, 0, none⟩) 4 4) (w.alloc (.cells #[.int .u8 74, .int .u8 101, .int .u8 102, .int .u8 101] 5)) (by go_simp) ?_
  refine Go.Great.wpList_runTo rfl (some 3) rfl (.slice (some ⟨w.heap.size, 0, none⟩) 4 4) (w.alloc (.cells #[.int .u8 74, .int .u8 101, .int .u8 102, .int .u8 101] 5 (4, 5))) (by simp only [Act.put, List.setIfInBounds_toArray, List.set_cons_zero, List.set_cons_succ]; go_simp) ?_
  have hc0 : Kd.C (Kd.int .u8) (w.alloc (.cells (ints .u8 (cN [74, 101, 102, 101])).toArray 5 (4, 5))) (some ⟨w.heap.size, 0, none⟩) (cN [74, 101, 102, 101]).length (cN [74, 101, 102, 101]) := const_C w [74, 101, 102, 101] 5 (4, 5) (by decide)
  have HB1 : Aside0 (Below w.heap.size w (w.alloc (.cells (ints .u8 (cN [74, 101, 102, 101])).toArray 5 (4, 5)))) := Aside0.mk (below_alloc HB0.out _)
  change wpList _ _ _ _ _ (w.alloc (.cells (ints .u8 (cN [74, 101, 102, 101])).toArray 5 (4, 5)))
  generalize hw0 : (w.alloc (.cells (ints .u8 (cN [74, 101, 102, 101])).toArray 5 (4, 5))) = wa0 at *
  clear hw0
  refine Go.Great.wpList_runTo rfl (some 4) rfl (.slice (some ⟨wa0.heap.size, 0, none⟩) 16 16) (wa0.alloc (.cells #[.int .u8 119, .int .u8 104, .int .u8 97, .int .u8 116, .int .u8 32, .int .u8 100, .int .u8 111, .int .u8 32, .int .u8 121, .int .u8 97, .int .u8 32, .int .u8 119, .int .u8 97, .int .u8 110, .int .u8 116, .int .u8 32] 5)) (by simp only [Act.put, List.setIfInBounds_toArray, List.set_cons_zero, List.set_cons_succ]; go_simp) ?_
  refine Go.Great.wpList_runTo rfl (some 5) rfl (.slice (some ⟨wa0.heap.size, 0, none⟩) 16 16) (wa0.alloc (.cells #[.int .u8 119, .int .u8 104, .int .u8 97, .int .u8 116, .int .u8 32, .int .u8 100, .int .u8 111, .int .u8 32, .int .u8 121, .int .u8 97, .int .u8 32, .int .u8 119, .int .u8 97, .int .u8 110, .int .u8 116, .int .u8 32] 5 (16, 17))) (by simp only [Act.put, List.setIfInBounds_toArray, List.set_cons_zero, List.set_cons_succ]; go_simp) ?_
  have hc1 : Kd.C (Kd.int .u8) (wa0.alloc (.cells (ints .u8 (cN [119, 104, 97, 116, 32, 100, 111, 32, 121, 97, 32, 119, 97, 110, 116, 32])).toArray 5 (16, 17))) (some ⟨wa0.heap.size, 0, none⟩) (cN [119, 104, 97, 116, 32, 100, 111, 32, 121, 97, 32, 119, 97, 110, 116, 32]).length (cN [119, 104, 97, 116, 32, 100, 111, 32, 121, 97, 32, 119, 97, 110, 116, 32]) := const_C wa0 [119, 104, 97, 116, 32, 100, 111, 32, 121, 97, 32, 119, 97, 110, 116, 32] 5 (16, 17) (by decide)
  have HB2 : Aside0 (Below w.heap.size w (wa0.alloc (.cells (ints .u8 (cN [119, 104, 97, 116, 32, 100, 111, 32, 121, 97, 32, 119, 97, 110, 116, 32])).toArray 5 (16, 17)))) := Aside0.mk (below_alloc HB1.out _)
  have hc0 := Kd.C_below hc0 (below_alloc (Below.refl wa0.heap.size wa0) (.cells (ints .u8 (cN [119, 104, 97, 116, 32, 100, 111, 32, 121, 97, 32, 119, 97, 110, 116, 32])).toArray 5 (16, 17)))
  change wpList _ _ _ _ _ (wa0.alloc (.cells (ints .u8 (cN [119, 104, 97, 116, 32, 100, 111, 32, 121, 97, 32, 119, 97, 110, 116, 32])).toArray 5 (16, 17)))
  generalize hw1 : (wa0.alloc (.cells (ints .u8 (cN [119, 104, 97, 116, 32, 100, 111, 32, 121, 97, 32, 119, 97, 110, 116, 32])).toArray 5 (16, 17))) = wa1 at *
  clear hw1
  generalize wa0.heap.size = g1 at *
  refine Go.Great.wpList_runTo rfl (some 6) rfl (.slice (some ⟨wa1.heap.size, 0, none⟩) 12 12) (wa1.alloc (.cells #[.int .u8 102, .int .u8 111, .int .u8 114, .int .u8 32, .int .u8 110, .int .u8 111, .int .u8 116, .int .u8 104, .int .u8 105, .int .u8 110, .int .u8 103, .int .u8 63] 5)) (by simp only [Act.put, List.setIfInBounds_toArray, List.set_cons_zero, List.set_cons_succ]; go_simp) ?_
  refine Go.Great.wpList_runTo rfl (some 7) rfl (.slice (some ⟨wa1.heap.size, 0, none⟩) 12 12) (wa1.alloc (.cells #[.int .u8 102, .int .u8 111, .int .u8 114, .int .u8 32, .int .u8 110, .int .u8 111, .int .u8 116, .int .u8 104, .int .u8 105, .int .u8 110, .int .u8 103, .int .u8 63] 5 (12, 13))) (by simp only [Act.put, List.setIfInBounds_toArray, List.set_cons_zero, List.set_cons_succ]; go_simp) ?_
  have hc2 : Kd.C (Kd.int .u8) (wa1.alloc (.cells (ints .u8 (cN [102, 111, 114, 32, 110, 111, 116, 104, 105, 110, 103, 63])).toArray 5 (12, 13))) (some ⟨wa1.heap.size, 0, none⟩) (cN [102, 111, 114, 32, 110, 111, 116, 104, 105, 110, 103, 63]).length (cN [102, 111, 114, 32, 110, 111, 116, 104, 105, 110, 103, 63]) := const_C wa1 [102, 111, 114, 32, 110, 111, 116, 104, 105, 110, 103, 63] 5 (12, 13) (by decide)
  have HB3 : Aside0 (Below w.heap.size w (wa1.alloc (.cells (ints .u8 (cN [102, 111, 114, 32, 110, 111, 116, 104, 105, 110, 103, 63])).toArray 5 (12, 13)))) := Aside0.mk (below_alloc HB2.out _)
  have hc0 := Kd.C_below hc0 (below_alloc (Below.refl wa1.heap.size wa1) (.cells (ints .u8 (cN [102, 111, 114, 32, 110, 111, 116, 104, 105, 110, 103, 63])).toArray 5 (12, 13)))
  have hc1 := Kd.C_below hc1 (below_alloc (Below.refl wa1.heap.size wa1) (.cells (ints .u8 (cN [102, 111, 114, 32, 110, 111, 116, 104, 105, 110, 103, 63])).toArray 5 (12, 13)))
  change wpList _ _ _ _ _ (wa1.alloc (.cells (ints .u8 (cN [102, 111, 114, 32, 110, 111, 116, 104, 105, 110, 103, 63])).toArray 5 (12, 13)))
  generalize hw2 : (wa1.alloc (.cells (ints .u8 (cN [102, 111, 114, 32, 110, 111, 116, 104, 105, 110, 103, 63])).toArray 5 (12, 13))) = wa2 at *
  clear hw2
  generalize wa1.heap.size = g2 at *
  have hbr : Below wa2.heap.size wa2 (wa2.alloc (.cells #[.slice (some ⟨g1, 0, none⟩) 16 16, .slice (some ⟨g2, 0, none⟩) 12 12] 22)) := below_alloc (Below.refl _ _) _
  have hc0 := Kd.C_below hc0 hbr
  have hc1 := Kd.C_below hc1 hbr
  have hc2 := Kd.C_below hc2 hbr
  have HB4 : Aside0 (Below w.heap.size w (wa2.alloc (.cells #[.slice (some ⟨g1, 0, none⟩) 16 16, .slice (some ⟨g2, 0, none⟩) 12 12] 22))) := Aside0.mk (below_alloc HB3.out _)
  refine Go.Great.wpList_runTo rfl (some 8) rfl (.slice (some ⟨wa2.heap.size, 0, none⟩) 2 2) (wa2.alloc (.cells #[.slice (some ⟨g1, 0, none⟩) 16 16, .slice (some ⟨g2, 0, none⟩) 12 12] 22)) (by simp only [Act.put, List.setIfInBounds_toArray, List.set_cons_zero, List.set_cons_succ]; go_simp) ?_
  have hrows : Kd.C (Kd.slice 5 (Kd.int .u8)) (wa2.alloc (.cells #[.slice (some ⟨g1, 0, none⟩) 16 16, .slice (some ⟨g2, 0, none⟩) 12 12] 22)) (some ⟨wa2.heap.size, 0, none⟩) ([[119, 104, 97, 116, 32, 100, 111, 32, 121, 97, 32, 119, 97, 110, 116, 32], [102, 111, 114, 32, 110, 111, 116, 104, 105, 110, 103, 63]].map cN).length ([[119, 104, 97, 116, 32, 100, 111, 32, 121, 97, 32, 119, 97, 110, 116, 32], [102, 111, 114, 32, 110, 111, 116, 104, 105, 110, 103, 63]].map cN) := by
    refine rows_mk [[119, 104, 97, 116, 32, 100, 111, 32, 121, 97, 32, 119, 97, 110, 116, 32], [102, 111, 114, 32, 110, 111, 116, 104, 105, 110, 103, 63]] [.slice (some ⟨g1, 0, none⟩) 16 16, .slice (some ⟨g2, 0, none⟩) 12 12] (heap_alloc_new wa2 _) (fun i x hx => ?_) (by decide)
    match i, hx with
    | 0, hx => injection hx with hx; subst hx; exact ⟨_, 16, rfl, by decide, hc1⟩
    | 1, hx => injection hx with hx; subst hx; exact ⟨_, 12, rfl, by decide, hc2⟩
    | n + 2, hx => cases hx
  have hof : Calls Try.prog 18 #[.slice (some ⟨w.heap.size, 0, none⟩) 4 4, .slice (some ⟨wa2.heap.size, 0, none⟩) 2 2] (wa2.alloc (.cells #[.slice (some ⟨g1, 0, none⟩) 16 16, .slice (some ⟨g2, 0, none⟩) 12 12] 22)) fun e w' => e = .returned (.agg (ints .u8 (cN (macOf [74, 101, 102, 101] ([[119, 104, 97, 116, 32, 100, 111, 32, 121, 97, 32, 119, 97, 110, 116, 32], [102, 111, 114, 32, 110, 111, 116, 104, 105, 110, 103, 63]] : List (List Nat)).flatten))).toArray) ∧ Below (World.heap (wa2.alloc (.cells #[.slice (some ⟨g1, 0, none⟩) 16 16, .slice (some ⟨g2, 0, none⟩) 12 12] 22))).size (wa2.alloc (.cells #[.slice (some ⟨g1, 0, none⟩) 16 16, .slice (some ⟨g2, 0, none⟩) 12 12] 22)) w' :=
    of_calls (some ⟨w.heap.size, 0, none⟩) 4 [74, 101, 102, 101] (some ⟨wa2.heap.size, 0, none⟩) 2 [[119, 104, 97, 116, 32, 100, 111, 32, 121, 97, 32, 119, 97, 110, 116, 32], [102, 111, 114, 32, 110, 111, 116, 104, 105, 110, 103, 63]] (wa2.alloc (.cells #[.slice (some ⟨g1, 0, none⟩) 16 16, .slice (some ⟨g2, 0, none⟩) 12 12] 22)) hc0 hrows (bs_of_mem (by decide)) (fun x hx => by
      simp only [List.mem_cons, List.not_mem_nil, or_false] at hx
      rcases hx with rfl | rfl <;> exact bs_of_mem (by decide)) (by decide) (by decide) (fun x hx => by
      simp only [List.mem_cons, List.not_mem_nil, or_false] at hx
      rcases hx with rfl | rfl <;> decide)
  rw [show ([[119, 104, 97, 116, 32, 100, 111, 32, 121, 97, 32, 119, 97, 110, 116, 32], [102, 111, 114, 32, 110, 111, 116, 104, 105, 110, 103, 63]] : List (List Nat)).flatten = [119, 104, 97, 116, 32, 100, 111, 32, 121, 97, 32, 119, 97, 110, 116, 32, 102, 111, 114, 32, 110, 111, 116, 104, 105, 110, 103, 63] from rfl, mac_jefe] at hof
  have HOF := Aside0.mk hof
  clear hof hrows hc0 hc1 hc2 hbr
  refine wpList_callR rfl (some 9) rfl 18 #[.slice (some ⟨w.heap.size, 0, none⟩) 4 4, .slice (some ⟨wa2.heap.size, 0, none⟩) 2 2] (by simp only [Act.put, List.setIfInBounds_toArray, List.set_cons_zero, List.set_cons_succ]; go_simp) _ HOF.out ?_
  rintro e w2 ⟨rfl, hB2⟩
  refine ⟨_, rfl, ?_⟩
  have hB3 : Below w.heap.size w w2 := HB4.out.trans (hB2.mono HB4.out.size)
  clear hB2 HOF kc
  simp only [Act.put, List.setIfInBounds_toArray, List.set_cons_zero, List.set_cons_succ]
  obtain ⟨D, hD⟩ : ∃ D : List Nat, [91, 220, 193, 70, 191, 96, 117, 78, 106, 4, 36, 38, 8, 149, 117, 199, 90, 0, 63, 8, 157, 39, 57, 131, 157, 236, 88, 185, 100, 236, 56, 67] = D := ⟨_, rfl⟩
  rw [hD]
  have hDl : (cN D).length = 32 := by rw [← hD]; rfl
  have hD0 : rd (cN D) (0 : Nat) = 91 := by rw [← hD]; rfl
  have hD1 : rd (cN D) (1 : Nat) = 220 := by rw [← hD]; rfl
  have hD31 : rd (cN D) (31 : Nat) = 67 := by rw [← hD]; rfl
  clear hD
  have hl1 : (ints .u8 (cN D)).length = 32 := by rw [ints_length, hDl]
  refine Go.Great.wpList_allocTo rfl (some 1) rfl _ (.cells (ints .u8 (cN z32)).toArray 25) rfl ?_
  have hA := Arr.new w2 .u8 25 (cN z32)
  have hB4 : Below w.heap.size w (w2.alloc (.cells (ints .u8 (cN z32)).toArray 25)) := hB3.alloc hB3.size _
  have hsz := hB3.size
  generalize w2.alloc (.cells (ints .u8 (cN z32)).toArray 25) = w3 at *
  refine wpList_store_mid rfl 25 (.tmp 1) (.tmp 9) rfl w2.heap.size 0 (ints .u8 (cN D)).toArray rfl rfl (hA.there (by rw [List.size_toArray, hl1]; rfl)) (by rw [List.size_toArray, hl1]; rfl) (all_oneCell_toArray (ints_one _ _)) ?_
  have hA2 := hA.setCells (ys := cN D) (by rw [cN_length, hDl]; rfl)
  have hB5 := below_setCells hsz (ints .u8 (cN D)) 0 w3 hB4
  apply wpList_nil
  refine hK0 _ _ ?_
  rw [List.toList_toArray]
  clear hA hB4 hK0 K0
  generalize w3.setCells w2.heap.size 0 (ints .u8 (cN D)) = w4 at *
  generalize w2.heap.size = g0 at *
  have HA := Aside0.mk hA2
  have HB := Aside0.mk hB5
  have c0 := hA2.cell 0 (by rw [hDl]; decide)
  have c1 := hA2.cell 1 (by rw [hDl]; decide)
  have c31 := hA2.cell 31 (by rw [hDl]; decide)
  rw [hD0] at c0
  rw [hD1] at c1
  rw [hD31] at c31
  clear hA2 hB3 hB5 hsz hl1 hDl hD0 hD1 hD31
  have HN0 : Aside0 (∀ W : World, Kd.C (Kd.int .u8) W none (cN ([] : List Nat)).length (cN ([] : List Nat))) := Aside0.mk (fun W => ⟨rfl, by decide, fun h => absurd h (by decide)⟩)
  have HS1 : Aside0 (Calls Try.prog 20 #[.slice none 0 0, .slice none 0 0] w4 fun e w' => e = .returned (.bool true) ∧ Below w4.heap.size w4 w') := Aside0.mk (same_calls none 0 [] none 0 [] w4 (HN0.out _) (HN0.out _) (bs_of_mem (by decide)) (bs_of_mem (by decide)) (by decide))
  go_wp2_with fail
  refine HS1.out.mono ?_
  rintro e w5 ⟨rfl, hB5⟩
  have HB5 : Aside0 (Below w.heap.size w w5) := Aside0.mk (HB.out.trans (hB5.mono HB.out.size))
  clear hB5 HS1
  have HS2 : Aside0 (Calls Try.prog 20 #[.slice none 0 0, .slice (some ⟨w5.heap.size, 0, none⟩) 1 1] (w5.alloc (.cells #[.int .u8 0] 5)) fun e w' => e = .returned (.bool false) ∧ Below (World.heap (w5.alloc (.cells #[.int .u8 0] 5))).size (w5.alloc (.cells #[.int .u8 0] 5)) w') := Aside0.mk (same_calls none 0 [] (some ⟨w5.heap.size, 0, none⟩) 1 [0] _ (HN0.out _) (const_C w5 [0] 5 (0, 0) (by decide)) (bs_of_mem (by decide)) (bs_of_mem (by decide)) (by decide))
  have HB6 : Aside0 (Below w.heap.size w (w5.alloc (.cells #[.int .u8 0] 5))) := Aside0.mk (below_alloc HB5.out _)
  go_wp2_with fail
  refine HS2.out.mono ?_
  rintro e w6 ⟨rfl, hB6⟩
  have HB7 : Aside0 (Below w.heap.size w w6) := Aside0.mk (HB6.out.trans (hB6.mono HB6.out.size))
  clear hB6 HS2
  go_wp2
  go_ret
  exact ⟨rfl, HB7.out⟩
end Go.Proofs.Ytinjhmmbndonhaa.PShaSums
