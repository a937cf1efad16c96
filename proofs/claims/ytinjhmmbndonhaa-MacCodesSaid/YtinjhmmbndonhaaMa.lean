/- mac.with: a key's block, each byte exclusive-ored with one. -/
import Derived.Test.YtinjhmmbndonhaaHo
import Derived.Test.YtinjhmmbndonhaaHq
namespace Go.Proofs.Ytinjhmmbndonhaa.PShaSums
open Go.RowKit Go.Proofs.YtinjhmmbndonhaaW.PrintWords Go.Proofs.YtinjhmmbndonhaaW.PrintLast Go.Proofs.YtinjhmmbndonhaaW.PrintMore Go.Proofs.Ytinjhmmbndonhaa.Sha Go.Proofs.Ytinjhmmbndonhaa.Arr
attribute [local go_sem] max2_int min2_int max_two min_two max_three min_three max_four min_four
attribute [local go_sem high] u8_w
set_option linter.unusedVariables false
set_option linter.unusedSimpArgs false
/-- a key as it is taken: its sum if it is long -/
def kk0 (xs : List Nat) : List Nat := if 64 < xs.length then sum xs else xs
/-- a key's block -/
def kb (xs : List Nat) : List Nat := kk0 xs ++ List.replicate (64 - (kk0 xs).length) 0
theorem kk0_le (xs : List Nat) : (kk0 xs).length ≤ 64 := by
  unfold kk0
  split
  · rw [sum_length]; decide
  · omega
theorem kb_length (xs : List Nat) : (kb xs).length = 64 := by
  unfold kb
  rw [List.length_append, List.length_replicate]
  have := kk0_le xs
  omega
theorem bytes4_lt (x : Nat) : ∀ y ∈ bytes4 x, y < 256 := by
  intro y hy
  simp only [bytes4, List.mem_cons, List.not_mem_nil, or_false] at hy
  rcases hy with rfl | rfl | rfl | rfl <;> exact Nat.mod_lt _ (by decide)
theorem bs_of_mem {l : List Nat} (h : ∀ y ∈ l, y < 256) : Bs l := by
  intro i
  rw [List.getD_eq_getElem?_getD]
  cases e : l[i]? with
  | none => exact Nat.zero_lt_succ _
  | some y => exact h y (List.mem_of_getElem? e)
theorem sum_bs (xs : List Nat) : Bs (sum xs) := by
  apply bs_of_mem
  intro y hy
  unfold sum H8.bytes at hy
  simp only [List.mem_append] at hy
  rcases hy with ((((((h | h) | h) | h) | h) | h) | h) | h <;> exact bytes4_lt _ y h
theorem kb_bs (xs : List Nat) (h : Bs xs) : Bs (kb xs) := by
  refine Bs.append ?_ ?_
  · unfold kk0
    split
    · exact sum_bs xs
    · exact h
  · apply bs_of_mem
    intro y hy
    rw [(List.mem_replicate.1 hy).2]
    decide
/-- the first i bytes exclusive-ored -/
def mixx (b : List Nat) (x i : Nat) : List Nat := (b.take i).map (· ^^^ x) ++ b.drop i
def kx (xs : List Nat) (x : Nat) : List Nat := (kb xs).map (· ^^^ x)
theorem mixx_zero (b : List Nat) (x : Nat) : mixx b x 0 = b := rfl
theorem mixx_all (b : List Nat) (x : Nat) (h : b.length = 64) : mixx b x 64 = b.map (· ^^^ x) := by
  unfold mixx
  rw [List.take_of_length_le (by omega), List.drop_of_length_le (by omega), List.append_nil]
theorem mixx_get (b : List Nat) (x i : Nat) (h : b.length = 64) (hi : i < 64) : (mixx b x i).getD i 0 = b.getD i 0 := by
  have hl : ((b.take i).map (· ^^^ x)).length = i := by rw [List.length_map, List.length_take]; omega
  unfold mixx
  rw [List.getD_eq_getElem?_getD, List.getD_eq_getElem?_getD, List.getElem?_append_right (by omega), hl, Nat.sub_self, List.getElem?_drop, Nat.add_zero]
theorem mixx_set (b : List Nat) (x i : Nat) (h : b.length = 64) (hi : i < 64) : (mixx b x i).set i (b.getD i 0 ^^^ x) = mixx b x (i + 1) := by
  have hl : ((b.take i).map (· ^^^ x)).length = i := by rw [List.length_map, List.length_take]; omega
  have hib : i < b.length := by omega
  unfold mixx
  rw [List.set_append_right _ _ (by omega), hl, Nat.sub_self, List.drop_eq_getElem_cons hib, List.set_cons_zero, List.take_add_one, List.getElem?_eq_getElem hib, List.map_append, List.append_assoc, List.getD_eq_getElem?_getD, List.getElem?_eq_getElem hib]
  rfl
theorem meas64' {t : Nat} (h : t < 64) : 64 - (intOf (.int .i64 ((t : Int) + 1))).toNat < 64 - (intOf (.int .i64 (t : Int))).toNat := by
  show 64 - ((t : Int) + 1).toNat < 64 - (t : Int).toNat
  omega
def z64b : List Nat := List.replicate 64 0
theorem copied (xs : List Nat) : (kk0 xs).take (min (kk0 xs).length 64) ++ z64b.drop (min (kk0 xs).length 64) = kb xs := by
  have := kk0_le xs
  unfold kb z64b
  rw [show min (kk0 xs).length 64 = (kk0 xs).length by omega, List.take_length, List.drop_replicate]
theorem arr_rd {k : IntKind} {T : TypeId} {w : World} {g : Nat} {xs : List Int} (h : Arr k T w g xs) (hl : xs.length ≤ maxLen) : ReadsInt w k (some ⟨g, 0, none⟩) xs.length xs :=
  ⟨rfl, hl, fun _ => ⟨_, rfl, fun j hj => by
    have h1 := h.cell j hj
    rw [show (⟨g, 0, none⟩ : Addr).add j = ⟨g, j, none⟩ by rw [Addr.add_mid, Nat.zero_add], h1]
    unfold rd
    rw [Int.toNat_natCast]⟩⟩
set_option maxHeartbeats 8000000 in
set_option maxRecDepth 100000 in
theorem with_calls (A0 : Option Addr) (k0 : Nat) (xs : List Nat) (x : Nat) (w : World) (hr0 : Kd.C (Kd.int .u8) w A0 (cN xs).length (cN xs)) (hx : Bs xs) (hxb : x < 256) (hl : xs.length ≤ 1000000000) :
    Calls Try.prog 25 #[.slice A0 (cN xs).length k0, .int .u8 (x : Int)] w fun e w' => ∃ g c, e = .returned (.slice (some ⟨g, 0, none⟩) 64 c) ∧ w'.ownsRow w.heap.size 5 1 (.slice (some ⟨g, 0, none⟩) 64 c) 64 (nums .u8 (cN (kx xs x))) ∧ Below w.heap.size w w' := by
  obtain ⟨m0, hm0⟩ : ∃ m, m = (cN xs).length := ⟨_, rfl⟩
  have HR0 := Aside0.mk hr0
  have HX := Aside0.mk hx
  have HXB := Aside0.mk hxb
  have HL := Aside0.mk hl
  have HM : Aside0 (m0 = xs.length ∧ m0 = (cN xs).length) := Aside0.mk ⟨by rw [hm0, cN_length], hm0⟩
  have hmk : ∀ W : World, (Instr.makeSlice 22 (.int .i64 64) (.int .i64 64)).run Try.prog W = .ok (.slice (some ⟨W.heap.size, 0, none⟩) 64 64) (W.alloc (.cells (madeCells #[.int .u8 0] 64) 5)) := print_make 22 5 .u8 1 rfl rfl (by decide) 64 (by decide)
  rw [← hm0]
  clear hr0 hx hxb hl
  by_cases hbig : m0 ≤ 64
  · have p0 : (m0 : Int) ≤ 64 := by omega
    have HK : Aside0 (kk0 xs = xs) := Aside0.mk (by unfold kk0; rw [if_neg (by have := HM.out.1; omega)])
    have HO2 : Aside0 ((w.alloc (.cells (madeCells #[.int .u8 0] 64) 5)).ownsRow w.heap.size 5 1 (.slice (some ⟨w.heap.size, 0, none⟩) 64 64) (cN z64b).length (encs (Value.int .u8) (cN z64b))) := Aside0.mk (own_made' w w.heap.size 5 .u8 64 (Nat.le_refl _) (by decide))
    have HP2 : Aside0 (Below w.heap.size w (w.alloc (.cells (madeCells #[.int .u8 0] 64) 5))) := Aside0.mk (below_alloc (Below.refl _ _) _)
    have HC2 : Aside0 (Kd.C (Kd.int .u8) (w.alloc (.cells (madeCells #[.int .u8 0] 64) 5)) A0 m0 (cN xs)) := Aside0.mk (by rw [HM.out.2]; exact Kd.C_below HR0.out HP2.out)
    clear hbig hm0
    go_enter Try.func25, Try.ntmps25
    go_wp2_with (first
      | ((with_reducible refine gate_dst (N := 17) rfl ?_); refine Kd.R_copy (0 : Int) (w0 := w) w.heap.size rfl (.tmp 15) (.tmp 16) 22 22 5 rfl rfl rfl (.slice (some ⟨w.heap.size, 0, none⟩) 64 64) (cN z64b) (cN xs) A0 m0 k0 (fun _ => True) rfl rfl (Kd.R_of_own HO2.out (fun _ _ => trivial)) HC2.out HP2.out HP2.out.size ?_; intro w4 ho hb hg; have HO3 := Aside0.mk (Kd.own_of_R ho); have HP4 := Aside0.mk hb; clear ho hb hg))
    have HO4 : Aside0 (w4.ownsRow w.heap.size 5 1 (.slice (some ⟨w.heap.size, 0, none⟩) 64 64) 64 (nums .u8 (cN (kb xs)))) := Aside0.mk (by
      have h := HO3.out
      have e := copied xs
      rw [HK.out] at e
      have e2 : (cN xs).take (min m0 (cN z64b).length) ++ (cN z64b).drop (min m0 (cN z64b).length) = cN (kb xs) := by
        rw [← e, cN_append, cN_take, cN_drop, HM.out.1]
        rfl
      rw [e2, cN_length, kb_length] at h
      exact h)
    go_loopw [20] (fun v wr => ∃ i : Nat, i ≤ 64 ∧ v = .int .i64 (i : Int) ∧ Aside0 (wr.ownsRow w.heap.size 5 1 (.slice (some ⟨w.heap.size, 0, none⟩) 64 64) 64 (nums .u8 (cN (mixx (kb xs) x i)))) ∧ Aside0 (Below w.heap.size w wr))
      (fun v _ => 64 - (intOf v).toNat)
    case atStart => exact ⟨0, by omega, rfl, Aside0.mk (by rw [mixx_zero]; exact HO4.out), HP4⟩
    case round =>
      clear HO4 HP4
      obtain ⟨i, hi, rfl, HO, HP⟩ := hrel
      by_cases hlt : i < 64
      · have t1 : (i : Int) < 64 := by omega
        obtain ⟨hc, hf⟩ := own_at HO.out (i : Int) (by omega) t1
        have hst := fun z => (own_store HO.out (i : Int) z).1
        rw [Int.toNat_natCast, rd_cN, mixx_get (kb xs) x i (kb_length xs) hlt] at hc
        rw [Int.toNat_natCast] at hf
        simp only [Int.toNat_natCast] at hst
        have hge := own_base HO.out (w.heap.size) rfl
        have hxr := u8_xor_nat ((kb xs).getD i 0) x (kb_bs xs HX.out i) HXB.out
        have hset := mixx_set (kb xs) x i (kb_length xs) hlt
        obtain ⟨y, hY⟩ : ∃ y, (kb xs).getD i 0 = y := ⟨_, rfl⟩
        rw [hY] at hc hxr hset
        clear hY
        obtain ⟨z, hz⟩ : ∃ z, z = y ^^^ x := ⟨_, rfl⟩
        rw [← hz] at hxr hset
        have HST := Aside0.mk hst
        have HSET := Aside0.mk hset
        have HGE := Aside0.mk hge
        have HLT := Aside0.mk hlt
        clear hz hst hset hge hlt hi
        go_wp2
        have ho := HST.out (z : Int)
        rw [cN_set, HSET.out] at ho
        have hp := HP.out.setCell (p := ⟨w.heap.size, i, none⟩) HGE.out (.int .u8 (z : Int))
        have hlt := HLT.out
        exact ⟨⟨i + 1, hlt, by rw [Int.natCast_add]; rfl, Aside0.mk ho, Aside0.mk hp⟩, meas64' hlt⟩
      · have hi' : i = 64 := by omega
        subst hi'
        rw [show ((64 : Nat) : Int) = 64 from rfl]
        clear hlt hi
        go_wp2
        go_ret
        exact ⟨w.heap.size, 64, rfl, by have h := HO.out; rw [mixx_all (kb xs) x (kb_length xs)] at h; exact h, HP.out⟩
  · have p0 : ¬ (m0 : Int) ≤ 64 := by omega
    have HK : Aside0 (kk0 xs = sum xs) := Aside0.mk (by unfold kk0; rw [if_pos (by have := HM.out.1; omega)])
    have hsu := sum_calls A0 k0 xs w HR0.out HX.out (by have := HL.out; omega)
    rw [← HM.out.2] at hsu
    have HSU := Aside0.mk hsu
    clear hbig hm0 hsu
    go_enter Try.func25, Try.ntmps25
    go_upto_region 2 with (fail)
    rename_i K0 hK0
    apply wp_region_lit
    refine Go.Great.wpList_readTo rfl (some 11) rfl (.slice A0 m0 k0) rfl ?_
    refine wpList_callR rfl (some 12) rfl 10 #[.slice A0 m0 k0] (by simp only [Act.put, List.setIfInBounds_toArray, List.set_cons_zero, List.set_cons_succ]; go_simp) _ HSU.out ?_
    rintro e w6 ⟨rfl, hB6⟩
    refine ⟨_, rfl, ?_⟩
    obtain ⟨D, hDg⟩ : ∃ D, sum xs = D := ⟨_, rfl⟩
    have hDl0 : D.length = 32 := by rw [← hDg]; rfl
    rw [hDg]
    rw [hDg] at HK
    have hDl : (cN D).length = 32 := by rw [cN_length, hDl0]
    have hl1 : (ints .u8 (cN D)).length = 32 := by rw [ints_length, hDl]
    refine Go.Great.wpList_allocTo rfl (some 5) rfl _ (.cells (ints .u8 (cN z32)).toArray 25) rfl ?_
    have hA := Arr.new w6 .u8 25 (cN z32)
    have hP7 : Below w6.heap.size w6 (w6.alloc (.cells (ints .u8 (cN z32)).toArray 25)) := below_alloc (Below.refl _ _) _
    generalize w6.alloc (.cells (ints .u8 (cN z32)).toArray 25) = w7 at *
    refine wpList_store_mid rfl 25 (.tmp 5) (.tmp 12) rfl w6.heap.size 0 (ints .u8 (cN D)).toArray rfl rfl (hA.there (by rw [List.size_toArray, hl1]; rfl)) (by rw [List.size_toArray, hl1]; rfl) (all_oneCell_toArray (ints_one _ _)) ?_
    have hA2 := hA.setCells (ys := cN D) (by rw [cN_length, hDl]; rfl)
    have hP8 := below_setCells (Nat.le_refl w6.heap.size) (ints .u8 (cN D)) 0 w7 hP7
    apply wpList_nil
    refine hK0 _ _ ?_
    rw [List.toList_toArray]
    clear hA hP7 hK0 K0
    generalize w7.setCells w6.heap.size 0 (ints .u8 (cN D)) = w8 at *
    have hB8 : Below w.heap.size w w8 := hB6.trans (hP8.mono hB6.size)
    have hs8 : w.heap.size ≤ w8.heap.size := hB8.size
    have HB8 := Aside0.mk hB8
    have HA8 := Aside0.mk hA2
    have HDL := Aside0.mk (And.intro hDl0 hDl)
    have HS8 := Aside0.mk hs8
    have HO2 : Aside0 ((w8.alloc (.cells (madeCells #[.int .u8 0] 64) 5)).ownsRow w.heap.size 5 1 (.slice (some ⟨w8.heap.size, 0, none⟩) 64 64) (cN z64b).length (encs (Value.int .u8) (cN z64b))) := Aside0.mk (own_made' w8 w.heap.size 5 .u8 64 hs8 (by decide))
    have HP2 : Aside0 (Below w.heap.size w (w8.alloc (.cells (madeCells #[.int .u8 0] 64) 5))) := Aside0.mk (below_alloc hB8 _)
    have HC2 : Aside0 (Kd.C (Kd.int .u8) (w8.alloc (.cells (madeCells #[.int .u8 0] 64) 5)) (some ⟨w6.heap.size, 0, none⟩) 32 (cN D)) := Aside0.mk (by
      have hb : Below w8.heap.size w8 (w8.alloc (.cells (madeCells #[.int .u8 0] 64) 5)) := below_alloc (Below.refl _ _) _
      have h := Kd.C_of_reads (enc := Value.int .u8) (d := (0 : Int)) (h1 := fun _ => rfl) (arr_rd (hA2.below hb hA2.size) (by rw [hDl]; decide))
      rw [hDl] at h
      exact h)
    clear hB6 hDg hDl0 hDl hl1 hA2 hP8 hB8 hs8 HSU
    generalize w6.heap.size = gd at *
    go_wp2_with (first
      | ((with_reducible refine gate_dst (N := 17) rfl ?_); refine Kd.R_copy (0 : Int) (w0 := w) w.heap.size rfl (.tmp 15) (.tmp 16) 22 22 5 rfl rfl rfl (.slice (some ⟨w8.heap.size, 0, none⟩) 64 64) (cN z64b) (cN D) (some ⟨gd, 0, none⟩) 32 32 (fun _ => True) rfl rfl (Kd.R_of_own HO2.out (fun _ _ => trivial)) HC2.out HP2.out HP2.out.size ?_; intro w4 ho hb hg; have HO3 := Aside0.mk (Kd.own_of_R ho); have HP4 := Aside0.mk hb; clear ho hb hg))
    have HO4 : Aside0 (w4.ownsRow w.heap.size 5 1 (.slice (some ⟨w8.heap.size, 0, none⟩) 64 64) 64 (nums .u8 (cN (kb xs)))) := Aside0.mk (by
      have h := HO3.out
      have e := copied xs
      rw [HK.out, HDL.out.1] at e
      have e2 : (cN D).take (min 32 (cN z64b).length) ++ (cN z64b).drop (min 32 (cN z64b).length) = cN (kb xs) := by
        rw [← e, cN_append, cN_take, cN_drop]
        rfl
      rw [e2, cN_length, kb_length] at h
      exact h)
    go_loopw [20] (fun v wr => ∃ i : Nat, i ≤ 64 ∧ v = .int .i64 (i : Int) ∧ Aside0 (wr.ownsRow w.heap.size 5 1 (.slice (some ⟨w8.heap.size, 0, none⟩) 64 64) 64 (nums .u8 (cN (mixx (kb xs) x i)))) ∧ Aside0 (Below w.heap.size w wr))
      (fun v _ => 64 - (intOf v).toNat)
    case atStart => exact ⟨0, by omega, rfl, Aside0.mk (by rw [mixx_zero]; exact HO4.out), HP4⟩
    case round =>
      clear HO4 HP4
      obtain ⟨i, hi, rfl, HO, HP⟩ := hrel
      by_cases hlt : i < 64
      · have t1 : (i : Int) < 64 := by omega
        obtain ⟨hc, hf⟩ := own_at HO.out (i : Int) (by omega) t1
        have hst := fun z => (own_store HO.out (i : Int) z).1
        rw [Int.toNat_natCast, rd_cN, mixx_get (kb xs) x i (kb_length xs) hlt] at hc
        rw [Int.toNat_natCast] at hf
        simp only [Int.toNat_natCast] at hst
        have hge := own_base HO.out (w8.heap.size) rfl
        have hxr := u8_xor_nat ((kb xs).getD i 0) x (kb_bs xs HX.out i) HXB.out
        have hset := mixx_set (kb xs) x i (kb_length xs) hlt
        obtain ⟨y, hY⟩ : ∃ y, (kb xs).getD i 0 = y := ⟨_, rfl⟩
        rw [hY] at hc hxr hset
        clear hY
        obtain ⟨z, hz⟩ : ∃ z, z = y ^^^ x := ⟨_, rfl⟩
        rw [← hz] at hxr hset
        have HST := Aside0.mk hst
        have HSET := Aside0.mk hset
        have HGE := Aside0.mk hge
        have HLT := Aside0.mk hlt
        clear hz hst hset hge hlt hi
        go_wp2
        have ho := HST.out (z : Int)
        rw [cN_set, HSET.out] at ho
        have hp := HP.out.setCell (p := ⟨w8.heap.size, i, none⟩) HGE.out (.int .u8 (z : Int))
        have hlt := HLT.out
        exact ⟨⟨i + 1, hlt, by rw [Int.natCast_add]; rfl, Aside0.mk ho, Aside0.mk hp⟩, meas64' hlt⟩
      · have hi' : i = 64 := by omega
        subst hi'
        rw [show ((64 : Nat) : Int) = 64 from rfl]
        clear hlt hi
        go_wp2
        go_ret
        exact ⟨w8.heap.size, 64, rfl, by have h := HO.out; rw [mixx_all (kb xs) x (kb_length xs)] at h; exact h, HP.out⟩
end Go.Proofs.Ytinjhmmbndonhaa.PShaSums
