/- mac.Of: a text's code. -/
import Derived.Test.YtinjhmmbndonhaaMa
namespace Go.Proofs.Ytinjhmmbndonhaa.PShaSums
open Go.RowKit Go.Proofs.YtinjhmmbndonhaaW.PrintWords Go.Proofs.YtinjhmmbndonhaaW.PrintLast Go.Proofs.YtinjhmmbndonhaaW.PrintMore Go.Proofs.Ytinjhmmbndonhaa.Sha Go.Proofs.Ytinjhmmbndonhaa.Arr
attribute [local go_sem] max2_int min2_int max_two min_two max_three min_three max_four min_four
attribute [local go_sem high] u8_w
set_option linter.unusedVariables false
set_option linter.unusedSimpArgs false
/-- a text's code, with a key -/
def macOf (key text : List Nat) : List Nat := sum (kx key 92 ++ sum (kx key 54 ++ text))
theorem kx_length (xs : List Nat) (x : Nat) : (kx xs x).length = 64 := by unfold kx; rw [List.length_map, kb_length]
theorem kx_bs (xs : List Nat) (x : Nat) (h : Bs xs) (hx : x < 256) : Bs (kx xs x) := by
  apply bs_of_mem
  intro y hy
  obtain ⟨z, hz, rfl⟩ := List.mem_map.1 hy
  have h1 : z < 256 := by
    obtain ⟨i, hi, e⟩ := List.getElem_of_mem hz
    have h2 := kb_bs xs h i
    rw [List.getD_eq_getElem?_getD, List.getElem?_eq_getElem hi] at h2
    rw [← e]
    exact h2
  exact Nat.xor_lt_two_pow (n := 8) h1 hx
/-- the first i parts of a text, one behind the other -/
def pre (l : List (List Nat)) (i : Nat) : List Nat := (l.take i).flatten
theorem pre_succ (l : List (List Nat)) (i : Nat) (h : i < l.length) : pre l i ++ l.getD i [] = pre l (i + 1) := by
  unfold pre
  rw [List.take_add_one, List.flatten_append, List.getD_eq_getElem?_getD, List.getElem?_eq_getElem h]
  simp
theorem pre_all (l : List (List Nat)) : pre l l.length = l.flatten := by unfold pre; rw [List.take_length]
theorem pre_le (l : List (List Nat)) (M : Nat) (h : ∀ x ∈ l, x.length ≤ M) : ∀ i, i ≤ l.length → (pre l i).length ≤ M * i := by
  intro i
  induction i with
  | zero => intro _; exact Nat.le_refl _
  | succ i ih =>
    intro hi
    rw [← pre_succ l i (by omega), List.length_append]
    have h1 := ih (by omega)
    have h2 : (l.getD i []).length ≤ M := by
      rw [List.getD_eq_getElem?_getD, List.getElem?_eq_getElem (by omega)]
      exact h _ (List.getElem_mem _)
    rw [Nat.mul_succ]
    omega
theorem rows_cell {w : World} {A : Option Addr} {l : List (List Nat)} (h : Kd.C (Kd.slice 5 (Kd.int .u8)) w A (l.map cN).length (l.map cN)) (i : Nat) (hi : i < l.length) :
    ∃ ad A1 c1, A = some ad ∧ w.cell? (ad.add i) = some (.slice A1 (cN (l.getD i [])).length c1) ∧ (cN (l.getD i [])).length ≤ c1 ∧ Kd.C (Kd.int .u8) w A1 (cN (l.getD i [])).length (cN (l.getD i [])) := by
  obtain ⟨ad, c, e, _, hK, hc⟩ := Kd.C_get h ([] : List Int) (i : Int) (by omega) (by rw [List.length_map]; omega)
  have e2 : (l.map cN).getD ((i : Int)).toNat [] = cN (l.getD i []) := by
    rw [Int.toNat_natCast, List.getD_eq_getElem?_getD, List.getD_eq_getElem?_getD, List.getElem?_map]
    cases l[i]? <;> rfl
  rw [e2] at hK
  obtain ⟨A1, c1, rfl, hle, hC⟩ := hK
  have h0 := hc 0 _ rfl
  rw [show (Kd.slice 5 (Kd.int IntKind.u8)).sz = 1 from rfl, Int.toNat_natCast, Nat.mul_one, Nat.add_zero] at h0
  exact ⟨ad, A1, c1, e, h0, hle, hC⟩
theorem own_C64 {w : World} {base m k : Nat} {e : TypeId} {A : Option Addr} {b : List Nat} (hb : (cN b).length = 64) (h : w.ownsRow base e 1 (.slice A m k) 64 (nums .u8 (cN b))) : Kd.C (Kd.int .u8) w A (cN b).length (cN b) := own_Cq (by rw [hb]; exact h)
theorem own64 {w : World} {base m k : Nat} {e : TypeId} {A : Option Addr} {b : List Nat} (hb : (cN b).length = 64) (h : w.ownsRow base e 1 (.slice A m k) 64 (nums .u8 (cN b))) : w.ownsRow base e 1 (.slice A m k) (cN b).length (encs (Value.int .u8) (cN b)) := by rw [hb]; exact h
theorem arr_C32 {T : TypeId} {w : World} {g : Nat} {D : List Nat} (hl : (cN D).length = 32) (h : Arr .u8 T w g (cN D)) : Kd.C (Kd.int .u8) w (some ⟨g, 0, none⟩) 32 (cN D) := by
  have h := Kd.C_of_reads (enc := Value.int .u8) (d := (0 : Int)) (h1 := fun _ => rfl) (arr_rd h (by rw [hl]; decide))
  rw [hl] at h
  exact h
theorem own_app {w : World} {base m k : Nat} {e : TypeId} {A : Option Addr} {a b : List Nat} (h : w.ownsRow base e 1 (.slice A m k) (cN a ++ cN b).length (encs (Value.int .u8) (cN a ++ cN b))) : Kd.C (Kd.int .u8) w A (cN (a ++ b)).length (cN (a ++ b)) := own_Cq (by rw [cN_append]; exact h)
theorem inc30 {t : Nat} (h : t < 30) : wrap64 ((t : Int) + 1) = (t : Int) + 1 := by unfold wrap64; omega
theorem skip_store {P : Program} {ops : Array Oper} {oi : Oper} {a : Act} {w : World} {K : Act → World → Prop} {Q : Exit → Act → World → Prop} (hw : Region.wanted oi (yielded ops a.tmps) = true) (hN : oi.dst = none) (ty : TypeId) (x y : Operand) (ho : oi.op = .store ty x y)
    (b o : Nat) (cells : Array Value) (hx : a.eval x = .pointer (some ⟨b, o, none⟩)) (hy : a.eval y = .agg cells)
    (ht : w.there b o cells.size) (hi : (P.info? ty).map (·.size) = some cells.size) (h1 : cells.all (·.oneCell') = true)
    (h : K a (w.setCells b o cells.toList)) : if Region.wanted oi (yielded ops a.tmps) = true then Oper.wp P oi a w K Q else K (a.put none undef) w := by
  rw [if_pos hw]
  refine wp_store_mid ty x y ho b o cells hx hy ht hi h1 ?_
  rw [hN]
  exact h
set_option maxHeartbeats 8000000 in
set_option maxRecDepth 100000 in
theorem of_calls (A0 : Option Addr) (k0 : Nat) (key : List Nat) (A1 : Option Addr) (k1 : Nat) (l : List (List Nat)) (w : World) (hr0 : Kd.C (Kd.int .u8) w A0 (cN key).length (cN key)) (hr1 : Kd.C (Kd.slice 5 (Kd.int .u8)) w A1 (l.map cN).length (l.map cN))
    (hb0 : Bs key) (hb1 : ∀ x ∈ l, Bs x) (hl0 : key.length ≤ 1000000) (hl1 : l.length ≤ 30) (hl2 : ∀ x ∈ l, x.length ≤ 1000000) :
    Calls Try.prog 18 #[.slice A0 (cN key).length k0, .slice A1 (l.map cN).length k1] w fun e w' => e = .returned (.agg (ints .u8 (cN (macOf key l.flatten))).toArray) ∧ Below w.heap.size w w' := by
  obtain ⟨m0, hm0⟩ : ∃ m, m = (cN key).length := ⟨_, rfl⟩
  obtain ⟨m1, hm1⟩ : ∃ m, m = (l.map cN).length := ⟨_, rfl⟩
  have HR0 := Aside0.mk hr0
  have HR1 := Aside0.mk hr1
  have HB := Aside0.mk (And.intro hb0 hb1)
  have HL := Aside0.mk (And.intro hl0 (And.intro hl1 hl2))
  have HM := Aside0.mk (And.intro hm0 hm1)
  have HM1 : Aside0 (m1 = l.length) := Aside0.mk (by rw [hm1, List.length_map])
  rw [← hm0, ← hm1]
  clear hr0 hr1 hb0 hb1 hl0 hl1 hl2 hm0 hm1
  go_enter Try.func18, Try.ntmps18
  go_upto_region 1 with (fail)
  refine wp_at (w2 := (w.alloc (.cells (ints .u8 (cN z32)).toArray 25))) rfl ?_
  have HA0 : Aside0 (Arr .u8 25 (w.alloc (.cells (ints .u8 (cN z32)).toArray 25)) w.heap.size (cN z32)) := Aside0.mk (Arr.new w .u8 _ _)
  have HB0 : Aside0 (Below w.heap.size w (w.alloc (.cells (ints .u8 (cN z32)).toArray 25))) := Aside0.mk (below_alloc (Below.refl _ _) _)
  have HS0 : Aside0 ((w.alloc (.cells (ints .u8 (cN z32)).toArray 25)).heap.size = w.heap.size + 1) := Aside0.mk (by simp)
  generalize w.alloc (.cells (ints .u8 (cN z32)).toArray 25) = w1 at *
  go_wp2_with fail
  refine (took_new w1).mono ?_
  rintro e w2 ⟨h, rfl, hh, hT2, hB2⟩
  have HH := Aside0.mk hh
  have HT2 := Aside0.mk hT2
  have HB2 := Aside0.mk hB2
  have HK0 : Aside0 (∀ W, Below w1.heap.size w1 W → Kd.C (Kd.int .u8) W A0 (cN key).length (cN key)) := Aside0.mk (fun W hb => Kd.C_below HR0.out (HB0.out.trans (hb.mono HB0.out.size)))
  have hw54 := with_calls A0 k0 key 54 w2 (HK0.out w2 hB2) HB.out.1 (by decide) (by have := HL.out.1; omega)
  rw [← HM.out.1] at hw54
  have HW54 := Aside0.mk hw54
  clear hh hT2 hB2 hw54
  go_wp2_with fail
  refine HW54.out.mono ?_
  rintro e w3 ⟨gb, cb, rfl, hO3, hB3⟩
  have HB3 : Aside0 (Below w1.heap.size w1 w3) := Aside0.mk (HB2.out.trans (hB3.mono HB2.out.size))
  have HT3 := HT2.out.below hB3
  have hln : (cN (kx key 54)).length = 64 := by rw [cN_length, kx_length]
  have hW := took_write (some ⟨gb, 0, none⟩) cb (kx key 54) w3 h [] _ HT3 (own_C64 hln hO3) (kx_bs key 54 HB.out.1 (by decide)) (fun ad e _ => by
    injection e with e
    subst e
    have h1 := own_base hO3 gb rfl
    have h2 := HT2.out.size
    show gb ≠ h
    omega) (by rw [kx_length]; decide)
  rw [List.nil_append, hln] at hW
  have HW := Aside0.mk hW
  clear hO3 hB3 HT3 hln hW HW54
  go_wp2_with fail
  refine HW.out.mono ?_
  rintro e w4 ⟨rfl, v4, hT4, hk4, hat4⟩
  have HB4 : Aside0 (Below w1.heap.size w1 w4) := Aside0.mk (HB3.out.trans (hk4.below HH.out (fun k hk => by cases hk) HB3.out.size))
  have HV4 : Aside0 (∀ k, v4.ownBlock = some k → w1.heap.size ≤ k) := Aside0.mk (by
    intro k hk
    have h1 := HB3.out.size
    rcases hat4 with e | ⟨q, e, hq⟩
    · rw [e] at hk; cases hk
    · rw [e] at hk
      injection hk with hk
      omega)
  have HT4 := Aside0.mk hT4
  clear hT4 hk4 hat4 HW HB3 HB2 HT2
  go_wp2
  go_loopw [16] (fun v wr => ∃ i : Nat, i ≤ m1 ∧ v = .int .i64 (i : Int) ∧ Aside0 (∃ vh, Took wr h (kx key 54 ++ pre l i) vh ∧ ∀ k, vh.ownBlock = some k → w1.heap.size ≤ k) ∧ Aside0 (Below w1.heap.size w1 wr))
    (fun v _ => m1 - (intOf v).toNat)
  case atStart => exact ⟨0, Nat.zero_le _, rfl, Aside0.mk ⟨v4, by show Took w4 h (kx key 54 ++ []) v4; rw [List.append_nil]; exact HT4.out, HV4.out⟩, HB4⟩
  case round =>
    clear HT4 HV4 HB4
    obtain ⟨i, hi, rfl, HTK, HBr⟩ := hrel
    by_cases hx : i < m1
    · have t1 : (i : Int) < (m1 : Int) := by omega
      have HIL : Aside0 (i < l.length) := Aside0.mk (by have := HM1.out; omega)
      have HIM := Aside0.mk hx
      obtain ⟨ad, A5, c5, eA, hc, hle, hC⟩ := rows_cell HR1.out i HIL.out
      cases eA
      have hB1w : Below w.heap.size w wr := HB0.out.trans (HBr.out.mono HB0.out.size)
      have hcr := (hB1w.cell (p := ad.add i) (World.block_lt_of_cell? w _ hc)).trans hc
      obtain ⟨x, hX⟩ : ∃ x, l.getD i [] = x := ⟨_, rfl⟩
      have hmem : x ∈ l := by rw [← hX, List.getD_eq_getElem?_getD, List.getElem?_eq_getElem HIL.out]; exact List.getElem_mem HIL.out
      have HPRE : Aside0 (pre l i ++ x = pre l (i + 1)) := Aside0.mk (by rw [← hX]; exact pre_succ l i HIL.out)
      rw [hX] at hcr hC
      obtain ⟨vh, hvh⟩ := HTK.out
      have hW := took_write A5 c5 x wr h (kx key 54 ++ pre l i) vh hvh.1 (Kd.C_below hC hB1w) (HB.out.2 x hmem) (old_row (Kd.C_below hC HB0.out) HH.out) (by
        have h1 := pre_le l 1000000 HL.out.2.2 i (by have := HIL.out; omega)
        have h2 := HL.out.2.2 x hmem
        have h3 := HL.out.2.1
        have h4 := HIL.out
        rw [List.length_append, kx_length]
        omega)
      rw [List.append_assoc, HPRE.out] at hW
      have HVH := Aside0.mk hvh
      obtain ⟨mx, hmx⟩ : ∃ m, m = (cN x).length := ⟨_, rfl⟩
      rw [← hmx] at hW hcr
      have HW := Aside0.mk hW
      clear hW hvh hX hmem hmx hC hB1w hc hle HTK hx hi
      go_wp2_with fail
      refine HW.out.mono ?_
      rintro e w6 ⟨rfl, v6, hT6, hk6, hat6⟩
      have hB6 : Below w1.heap.size w1 w6 := HBr.out.trans (hk6.below HH.out HVH.out.2 HBr.out.size)
      have hV6 : ∀ k, v6.ownBlock = some k → w1.heap.size ≤ k := by
        intro k hk
        have h1 := HBr.out.size
        rcases hat6 with e | ⟨q, e, hq⟩
        · rw [e] at hk; exact HVH.out.2 k hk
        · rw [e] at hk
          injection hk with hk
          omega
      have HE : Aside0 (∃ vh, Took w6 h (kx key 54 ++ pre l (i + 1)) vh ∧ ∀ k, vh.ownBlock = some k → w1.heap.size ≤ k) := Aside0.mk ⟨v6, hT6, hV6⟩
      have HB6 := Aside0.mk hB6
      clear hT6 hk6 hat6 hV6 hB6 hcr HW
      go_wp2
      have hx := HIM.out
      have v9 := inc30 (by have := HIL.out; have := HL.out.2.1; omega : i < 30)
      rw [v9]
      exact ⟨⟨i + 1, hx, by rw [Int.natCast_add]; rfl, HE, HB6⟩, by show m1 - ((i : Int) + 1).toNat < m1 - (i : Int).toNat; omega⟩
    · have hi' : i = m1 := by omega
      have HI : Aside0 (i = l.length) := Aside0.mk (hi'.trans HM1.out)
      have t1 : (m1 : Int) ≤ (i : Int) := by omega
      obtain ⟨vh, hvh⟩ := HTK.out
      have hvh1 := hvh.1
      rw [HI.out, pre_all] at hvh1
      have hfl : l.flatten.length ≤ 30000000 := by
        have h1 := pre_le l 1000000 HL.out.2.2 l.length (Nat.le_refl _)
        rw [pre_all] at h1
        have h2 := HL.out.2.1
        omega
      have hsm := took_sum wr h _ _ hvh1 (by rw [List.length_append, kx_length]; omega)
      have HSM := Aside0.mk hsm
      clear hsm hvh hvh1 hfl HTK hx hi hi'
      go_upto_region 8 with (fail)
      rename_i K0 hK0
      apply wp_region_lit
      refine Go.Great.wpList_readTo rfl (some 24) rfl (.pointer (some ⟨h, 0, none⟩)) rfl ?_
      refine wpList_callR rfl (some 25) rfl 13 #[.pointer (some ⟨h, 0, none⟩)] (by simp only [Act.put, List.setIfInBounds_toArray, List.set_cons_zero, List.set_cons_succ]; go_simp) _ HSM.out ?_
      rintro e w6 ⟨rfl, hB6⟩
      refine ⟨_, rfl, ?_⟩
      obtain ⟨D, hDg⟩ : ∃ D, sum (kx key 54 ++ l.flatten) = D := ⟨_, rfl⟩
      have hDl0 : D.length = 32 := by rw [← hDg]; rfl
      have hDb : Bs D := by rw [← hDg]; exact sum_bs _
      rw [hDg]
      have hDl : (cN D).length = 32 := by rw [cN_length, hDl0]
      have hl1 : (ints .u8 (cN D)).length = 32 := by rw [ints_length, hDl]
      refine Go.Great.wpList_allocTo rfl (some 8) rfl _ (.cells (ints .u8 (cN z32)).toArray 25) rfl ?_
      have hA := Arr.new w6 .u8 25 (cN z32)
      have hP7 : Below w6.heap.size w6 (w6.alloc (.cells (ints .u8 (cN z32)).toArray 25)) := below_alloc (Below.refl _ _) _
      generalize w6.alloc (.cells (ints .u8 (cN z32)).toArray 25) = w7 at *
      refine wpList_store_mid rfl 25 (.tmp 8) (.tmp 25) rfl w6.heap.size 0 (ints .u8 (cN D)).toArray rfl rfl (hA.there (by rw [List.size_toArray, hl1]; rfl)) (by rw [List.size_toArray, hl1]; rfl) (all_oneCell_toArray (ints_one _ _)) ?_
      have hA2 := hA.setCells (ys := cN D) (by rw [cN_length, hDl]; rfl)
      have hP8 := below_setCells (Nat.le_refl w6.heap.size) (ints .u8 (cN D)) 0 w7 hP7
      apply wpList_nil
      refine hK0 _ _ ?_
      rw [List.toList_toArray]
      clear hA hP7 hK0 K0
      generalize w7.setCells w6.heap.size 0 (ints .u8 (cN D)) = w8 at *
      have HB8 : Aside0 (Below w1.heap.size w1 w8) := Aside0.mk ((HBr.out.trans (hB6.mono HBr.out.size)).trans (hP8.mono (Nat.le_trans HBr.out.size hB6.size)))
      have HA8 := Aside0.mk hA2
      have HD := Aside0.mk (And.intro hDg (And.intro hDl0 (And.intro hDl (And.intro hl1 hDb))))
      clear hB6 hDg hDl0 hDl hl1 hA2 hP8 HSM hDb
      generalize w6.heap.size = gd at *
      have HW92 : Aside0 (∀ W, Below w1.heap.size w1 W → Calls Try.prog 25 #[.slice A0 m0 k0, .int .u8 92] W fun e w' => ∃ g c, e = .returned (.slice (some ⟨g, 0, none⟩) 64 c) ∧ w'.ownsRow W.heap.size 5 1 (.slice (some ⟨g, 0, none⟩) 64 c) 64 (nums .u8 (cN (kx key 92))) ∧ Below W.heap.size W w') := Aside0.mk (fun W hb => by
        have h := with_calls A0 k0 key 92 W (HK0.out W hb) HB.out.1 (by decide) (by have := HL.out.1; omega)
        rw [← HM.out.1] at h
        exact h)
      have HK9 : Aside0 ((cN (kx key 92)).length = 64) := Aside0.mk (by rw [cN_length, kx_length])
      have HL9 : Aside0 (((cN (kx key 92)).length + 32) * 1 ≤ 140737488355328) := Aside0.mk (by rw [HK9.out]; decide)
      go_wp2
      refine start_ (n := 6) (S := fun w' => Below w1.heap.size w1 w' ∧ Arr .u8 25 w' gd (cN D)) (ds := [5]) #[false, false, false, false, false, false] (by kernel_rfl) rfl rfl ⟨HB8.out.drew, HA8.out.drew⟩ (fun hHeld => ?_)
      refine pure_ (i := 0) (N := some 26) (v := ?_) (a' := ?_) #[true, false, false, false, false, false] rfl rfl (by kernel_rfl) (fun _ _ _ h => h) (Or.inl ⟨by rfl, ?_⟩) ?_ ?_
      rotate_left
      · intro w'
        go_simp
        with_reducible rfl
      rotate_left
      · simp only [Act.put, List.setIfInBounds_toArray, List.set_cons_zero, List.set_cons_succ, i64_w, i32_w]
        rfl
      refine pure_ (i := 2) (N := some 28) (v := ?_) (a' := ?_) #[true, false, true, false, false, false] rfl rfl (by kernel_rfl) (fun _ _ _ h => h) (Or.inl ⟨by rfl, ?_⟩) ?_ ?_
      rotate_left
      · intro w'
        go_simp
        with_reducible rfl
      rotate_left
      · simp only [Act.put, List.setIfInBounds_toArray, List.set_cons_zero, List.set_cons_succ, i64_w, i32_w]
        rfl
      refine one_ (i := 1) (N := some 27) #[true, true, true, false, false, false] rfl rfl (by kernel_rfl) (by decide) (fun K hK => ?_)
      refine goes_ Try.func25 (by kernel_rfl) rfl #[.slice A0 m0 k0, .int .u8 92] (by rfl) rfl rfl (by simp only [List.map_toArray, List.map_cons, List.map_nil]; rfl) ?_
      with_reducible refine (HW92.out _ hHeld.1).mono ?_
      rintro e u1 ⟨gb2, cb2, rfl, hO1, hB1⟩
      refine ⟨_, rfl, ?_⟩
      refine hK.out _ _ ⟨hHeld.1.trans (hB1.mono hHeld.1.size), hHeld.2.below hB1 hHeld.2.size⟩ (fun hHeld => ?_)
      clear hK K
      refine norm_ (a' := ?_) ?_ ?_
      rotate_left
      · show Act.put _ (some 27) _ = _
        simp only [Act.put, List.setIfInBounds_toArray, List.set_cons_zero, List.set_cons_succ, i64_w, i32_w]
        rfl
      refine one_ (i := 3) (N := some 29) #[true, true, true, true, false, false] rfl rfl (by kernel_rfl) (by decide) (fun K hK => ?_)
      have hO1b := own64 HK9.out hO1
      have hRD := arr_C32 HD.out.2.2.1 hHeld.2
      refine Kd.R_append_rows_step (Kd.int .u8) (w0 := u1) (W := u1) w8.heap.size (by rfl) (.tmp 27) (.tmp 28) 22 5 (.int .u8 0) 1 rfl rfl rfl rfl (by decide) (by omega) (.slice (some ⟨gb2, 0, none⟩) 64 cb2) (cN (kx key 92)) (cN D) (some ⟨gd, 0, none⟩) 32 32 (fun _ => True) (fun _ => False) rfl rfl (Kd.R_of_own hO1b (fun _ _ => trivial)) hRD (fun _ _ h => h) (fun _ h => h.elim) (fun _ _ => trivial) (Below.refl _ _) hB1.size HL9.out ?_
      intro v2 u2 ho hb hg hat
      clear hg hat
      obtain ⟨A2, k2, rfl⟩ := own_slice (Kd.own_of_R ho)
      have hSU := sum_calls A2 k2 (kx key 92 ++ D) u2 (own_app (Kd.own_of_R ho)) ((kx_bs key 92 HB.out.1 (by decide)).append HD.out.2.2.2.2) (by rw [List.length_append, kx_length, HD.out.2.1]; decide)
      rw [show (cN (kx key 92 ++ D)).length = (cN (kx key 92) ++ cN D).length by rw [cN_append]] at hSU
      have HSU := Aside0.mk hSU
      clear hSU ho
      refine hK.out _ _ ⟨hHeld.1.trans (hb.mono HB8.out.size), hHeld.2.below hb HA8.out.size⟩ (fun hHeld => ?_)
      clear hK K
      refine norm_ (a' := ?_) ?_ ?_
      rotate_left
      · show Act.put _ (some 29) _ = _
        simp only [Act.put, List.setIfInBounds_toArray, List.set_cons_zero, List.set_cons_succ, i64_w, i32_w]
        rfl
      refine one_ (i := 4) (N := some 30) #[true, true, true, true, true, false] rfl rfl (by kernel_rfl) (by decide) (fun K hK => ?_)
      refine goes_ Try.func10 (by kernel_rfl) rfl #[.slice A2 (cN (kx key 92) ++ cN D).length k2] (by rfl) rfl rfl (by simp only [List.map_toArray, List.map_cons, List.map_nil]; rfl) ?_
      with_reducible refine (HSU.out).mono ?_
      rintro e u3 ⟨rfl, hB3⟩
      refine ⟨_, rfl, ?_⟩
      refine hK.out _ _ ⟨hHeld.1.trans (hB3.mono hHeld.1.size), hHeld.2.below hB3 hHeld.2.size⟩ (fun hHeld => ?_)
      clear hK K
      refine norm_ (a' := ?_) ?_ ?_
      rotate_left
      · show Act.put _ (some 30) _ = _
        simp only [Act.put, List.setIfInBounds_toArray, List.set_cons_zero, List.set_cons_succ, i64_w, i32_w]
        rfl
      refine last_ (i := 5) (N := none) #[true, true, true, true, true, true] rfl rfl (by kernel_rfl) (by decide) (fun K hK => ?_)
      have hA9 := HA0.out.below hHeld.1 (by have := HS0.out; omega)
      refine skip_store (by rfl) rfl 25 (.tmp 4) (.tmp 30) rfl w.heap.size 0 (ints .u8 (cN (sum (kx key 92 ++ D)))).toArray rfl rfl (hA9.there (by rw [List.size_toArray, ints_length, sum_len32]; rfl)) (by rw [List.size_toArray, ints_length, sum_len32]; rfl) (all_oneCell_toArray (ints_one _ _)) ?_
      rw [List.toList_toArray]
      have hA10 := hA9.setCells (ys := cN (sum (kx key 92 ++ D))) (by rw [cN_length, sum_len32]; rfl)
      have hB10 := below_setCells (Nat.le_refl w.heap.size) (ints .u8 (cN (sum (kx key 92 ++ D)))) 0 u3 (HB0.out.trans (hHeld.1.mono HB0.out.size))
      generalize u3.setCells w.heap.size 0 (ints .u8 (cN (sum (kx key 92 ++ D)))) = u4 at *
      refine hK.out _ _ ?_
      clear hK K
      refine done_ (by kernel_rfl) ?_
      go_wp2
      refine bodyPost_ret (v := .agg (ints .u8 (cN (sum (kx key 92 ++ D)))).toArray) ?_ rfl ⟨by rw [macOf, HD.out.1], hB10⟩
      exact results_cell_row rfl _ _ w.heap.size 25 (ints .u8 (cN (sum (kx key 92 ++ D)))).toArray (0, 0) _ rfl hA10 rfl rfl (by rw [List.size_toArray, ints_length, sum_len32]; rfl)
end Go.Proofs.Ytinjhmmbndonhaa.PShaSums
