/- What the proof of NonceMore is made of, part 31. -/
import Derived.Test.YtojlhmmmiebbmaaZNonceMore30
namespace Go.Proofs.Ytojlhmmmiebbmaa.PNonceLists
open Go.RowKit Go.Proofs.Ytojlhmmmiebbmaa Go.Proofs.YtojlhmmmiebbmaaW.PrintWords Go.Proofs.YtojlhmmmiebbmaaW.PrintLast Go.Proofs.YtojlhmmmiebbmaaW.PrintMore Go.Proofs.Ytojlhmmmiebbmaa.Sha Go.Proofs.Ytojlhmmmiebbmaa.Arr
attribute [local go_sem] max2_int min2_int max_two min_two max_three min_three max_four min_four
attribute [local go_sem high] eqg_num
set_option linter.unusedVariables false
set_option linter.unusedSimpArgs false
theorem cand_fewer {d q many fewer : Nat} (h : fewer ≤ many) : candN d q fewer = (candN d q many).take fewer := runN_fewer fewer many h 100 _ [] (Nat.zero_le _)
theorem rmay_true (x : Nat) (h : mayN x = true) (u : World) : Calls Try.prog 7 #[numV x] u fun e w' => e = .returned (.bool true) ∧ Below u.heap.size u w' := by
  have h2 := rmay_calls x u (may_lt h)
  rw [h] at h2
  exact h2
theorem NL.rangeAt {w w' : World} {base g c m i x : Nat} {l : List Nat} (h : NL w base (.slice (some ⟨g, 0, none⟩) m c) l) (hb : Below w.heap.size w w') (hi : l[i]? = some x) : w'.rangeAt g (i * 4) (nw x) := by
  obtain ⟨g', e, h⟩ := (h.on hb).range hi
  injection e with e
  injection e with e
  subst e
  rw [Nat.mul_comm]
  exact h
set_option maxRecDepth 100000 in
set_option maxHeartbeats 8000000 in
theorem more_walk (d : Nat) (h : List Nat) (many fewer : Int) (hd : d < N256) (hh : h.length = 32) (hbs : Bs h) (w : World) :
    Calls Try.prog 4 #[numV d, digV h, .int .i64 many, .int .i64 fewer] w fun e w' => e = .returned (.bool true) ∧ Below w.heap.size w w' := by
  have HUP := Aside0.mk (fun u => up6_calls u)
  have HHL := Aside0.mk hh
  by_cases hg : mayN d = true ∧ 0 ≤ many ∧ many ≤ 16
  · obtain ⟨hmay, h0, h16⟩ := hg
    obtain ⟨m, rfl⟩ := Int.eq_ofNat_of_zero_le h0
    have hm : m ≤ 16 := by omega
    by_cases hs : (candN d (beN h % nN) m).length < m
    · have HLS := Aside0.mk (fun u => list_short d h m u hd hh hbs hmay hm hs)
      clear hd hh hbs h0 h16 hm hmay hs
      unfold digV
      go_enter Try.func4, Try.ntmps4
      go_upto_region 1 with (fail)
      refine wp_at (w2 := (World.alloc (World.alloc w (.cells (nw d).toArray 24)) (.cells (ints .u8 (cN h)).toArray 26))) rfl ?_
      obtain ⟨x_0, e_0, h_0, b_0, s_0⟩ := new_num w d
      obtain ⟨x_1, e_1, h_1, b_1, s_1⟩ := new_dig x_0 h
      rw [e_0, e_1]
      rw [s_0] at h_1 s_1
      have HB : Aside0 (Below w.heap.size w x_1) := Aside0.mk (bl_both b_0 b_1)
      have HD : Aside0 (NAt x_1 (w.heap.size) d) := Aside0.mk (h_0.on b_1)
      have HH : Aside0 (Arr .u8 26 x_1 (w.heap.size + 1) (cN h)) := Aside0.mk h_1
      have HS : Aside0 (w.heap.size + 1 + 1 ≤ x_1.heap.size) := Aside0.mk (Nat.le_of_eq s_1.symm)
      clear e_0 h_0 b_0 s_0 e_1 h_1 b_1 s_1
      obtain ⟨w1, hw_⟩ : ∃ x, x = x_1 := ⟨_, rfl⟩
      subst hw_
      clear x_0
      go_wp2_with (first | ((with_reducible refine gate_callee (f := 5) rfl ?_); refine goesL_ (some 16) rfl rfl Try.func5 (by kernel_rfl) rfl #[] rfl (by (try simp only [List.map_toArray, List.map_cons, List.map_nil]); first | done | rfl) ?_; (with_reducible refine (HUP.out _).mono ?_); rintro e u16 ⟨rfl, hb_⟩; replace HD := Aside0.mk (HD.out.on hb_); replace HH := Aside0.mk (HH.out.on hb_); replace HB := Aside0.mk (bl_on HB.out hb_ HB.out.size); clear hb_; refine ⟨_, rfl, ?_⟩) | ((with_reducible refine gate_dst (N := 18) rfl ?_); refine ld_num (HD.out.range) rfl _ rfl rfl ?_) | ((with_reducible refine gate_dst (N := 19) rfl ?_); refine ld_dig (HH.out) (HHL.out) rfl _ rfl rfl ?_) | ((with_reducible refine gate_callee (f := 6) rfl ?_); refine goesL_ (some 21) rfl rfl Try.func6 (by kernel_rfl) rfl #[numV d, digV h, .int .i64 (m : Int)] rfl (by (try simp only [List.map_toArray, List.map_cons, List.map_nil]); first | done | rfl) ?_; (with_reducible refine (HLS.out _).mono ?_); rintro e u21 ⟨rfl, hb_⟩; replace HD := Aside0.mk (HD.out.on hb_); replace HH := Aside0.mk (HH.out.on hb_); replace HB := Aside0.mk (bl_on HB.out hb_ HB.out.size); clear hb_; refine ⟨_, rfl, ?_⟩))
      go_ret
      exact ⟨rfl, HB.out⟩
    · have hs2 : (candN d (beN h % nN) m).length = m := by
        have := runN_len m 100 (stB (byt d ++ byt (beN h % nN)) 2) [] (Nat.zero_le _)
        unfold candN at hs ⊢
        omega
      have HLS := Aside0.mk (fun u => list_full d h m u hd hh hbs hmay hm hs2)
      by_cases hf0 : fewer < 0
      · clear hd hh hbs h0 h16 hm hmay hs hs2
        unfold digV
        go_enter Try.func4, Try.ntmps4
        go_upto_region 1 with (fail)
        refine wp_at (w2 := (World.alloc (World.alloc w (.cells (nw d).toArray 24)) (.cells (ints .u8 (cN h)).toArray 26))) rfl ?_
        obtain ⟨x_0, e_0, h_0, b_0, s_0⟩ := new_num w d
        obtain ⟨x_1, e_1, h_1, b_1, s_1⟩ := new_dig x_0 h
        rw [e_0, e_1]
        rw [s_0] at h_1 s_1
        have HB : Aside0 (Below w.heap.size w x_1) := Aside0.mk (bl_both b_0 b_1)
        have HD : Aside0 (NAt x_1 (w.heap.size) d) := Aside0.mk (h_0.on b_1)
        have HH : Aside0 (Arr .u8 26 x_1 (w.heap.size + 1) (cN h)) := Aside0.mk h_1
        have HS : Aside0 (w.heap.size + 1 + 1 ≤ x_1.heap.size) := Aside0.mk (Nat.le_of_eq s_1.symm)
        clear e_0 h_0 b_0 s_0 e_1 h_1 b_1 s_1
        obtain ⟨w1, hw_⟩ : ∃ x, x = x_1 := ⟨_, rfl⟩
        subst hw_
        clear x_0
        go_wp2_with (first | ((with_reducible refine gate_callee (f := 5) rfl ?_); refine goesL_ (some 16) rfl rfl Try.func5 (by kernel_rfl) rfl #[] rfl (by (try simp only [List.map_toArray, List.map_cons, List.map_nil]); first | done | rfl) ?_; (with_reducible refine (HUP.out _).mono ?_); rintro e u16 ⟨rfl, hb_⟩; replace HD := Aside0.mk (HD.out.on hb_); replace HH := Aside0.mk (HH.out.on hb_); replace HB := Aside0.mk (bl_on HB.out hb_ HB.out.size); clear hb_; refine ⟨_, rfl, ?_⟩) | ((with_reducible refine gate_dst (N := 18) rfl ?_); refine ld_num (HD.out.range) rfl _ rfl rfl ?_) | ((with_reducible refine gate_dst (N := 19) rfl ?_); refine ld_dig (HH.out) (HHL.out) rfl _ rfl rfl ?_) | ((with_reducible refine gate_callee (f := 6) rfl ?_); refine goesL_ (some 21) rfl rfl Try.func6 (by kernel_rfl) rfl #[numV d, digV h, .int .i64 (m : Int)] rfl (by (try simp only [List.map_toArray, List.map_cons, List.map_nil]); first | done | rfl) ?_; (with_reducible refine (HLS.out _).mono ?_); rintro e u21 ⟨A1, c1, rfl, hn_, hb_⟩; replace HD := Aside0.mk (HD.out.on hb_); replace HH := Aside0.mk (HH.out.on hb_); replace HB := Aside0.mk (bl_on HB.out hb_ HB.out.size); clear hb_; refine ⟨_, rfl, ?_⟩))
        go_ret
        exact ⟨rfl, HB.out⟩
      · by_cases hf1 : ((m : Nat) : Int) < fewer
        · clear hd hh hbs h0 h16 hm hmay hs hs2
          unfold digV
          go_enter Try.func4, Try.ntmps4
          go_upto_region 1 with (fail)
          refine wp_at (w2 := (World.alloc (World.alloc w (.cells (nw d).toArray 24)) (.cells (ints .u8 (cN h)).toArray 26))) rfl ?_
          obtain ⟨x_0, e_0, h_0, b_0, s_0⟩ := new_num w d
          obtain ⟨x_1, e_1, h_1, b_1, s_1⟩ := new_dig x_0 h
          rw [e_0, e_1]
          rw [s_0] at h_1 s_1
          have HB : Aside0 (Below w.heap.size w x_1) := Aside0.mk (bl_both b_0 b_1)
          have HD : Aside0 (NAt x_1 (w.heap.size) d) := Aside0.mk (h_0.on b_1)
          have HH : Aside0 (Arr .u8 26 x_1 (w.heap.size + 1) (cN h)) := Aside0.mk h_1
          have HS : Aside0 (w.heap.size + 1 + 1 ≤ x_1.heap.size) := Aside0.mk (Nat.le_of_eq s_1.symm)
          clear e_0 h_0 b_0 s_0 e_1 h_1 b_1 s_1
          obtain ⟨w1, hw_⟩ : ∃ x, x = x_1 := ⟨_, rfl⟩
          subst hw_
          clear x_0
          go_wp2_with (first | ((with_reducible refine gate_callee (f := 5) rfl ?_); refine goesL_ (some 16) rfl rfl Try.func5 (by kernel_rfl) rfl #[] rfl (by (try simp only [List.map_toArray, List.map_cons, List.map_nil]); first | done | rfl) ?_; (with_reducible refine (HUP.out _).mono ?_); rintro e u16 ⟨rfl, hb_⟩; replace HD := Aside0.mk (HD.out.on hb_); replace HH := Aside0.mk (HH.out.on hb_); replace HB := Aside0.mk (bl_on HB.out hb_ HB.out.size); clear hb_; refine ⟨_, rfl, ?_⟩) | ((with_reducible refine gate_dst (N := 18) rfl ?_); refine ld_num (HD.out.range) rfl _ rfl rfl ?_) | ((with_reducible refine gate_dst (N := 19) rfl ?_); refine ld_dig (HH.out) (HHL.out) rfl _ rfl rfl ?_) | ((with_reducible refine gate_callee (f := 6) rfl ?_); refine goesL_ (some 21) rfl rfl Try.func6 (by kernel_rfl) rfl #[numV d, digV h, .int .i64 (m : Int)] rfl (by (try simp only [List.map_toArray, List.map_cons, List.map_nil]); first | done | rfl) ?_; (with_reducible refine (HLS.out _).mono ?_); rintro e u21 ⟨A1, c1, rfl, hn_, hb_⟩; replace HD := Aside0.mk (HD.out.on hb_); replace HH := Aside0.mk (HH.out.on hb_); replace HB := Aside0.mk (bl_on HB.out hb_ HB.out.size); clear hb_; refine ⟨_, rfl, ?_⟩))
          go_ret
          exact ⟨rfl, HB.out⟩
        · obtain ⟨k, rfl⟩ := Int.eq_ofNat_of_zero_le (show 0 ≤ fewer by omega)
          have hk : k ≤ m := by omega
          have hk2 : (candN d (beN h % nN) k).length = k := by rw [cand_fewer hk, List.length_take]; omega
          have HLK := Aside0.mk (fun u => list_full d h k u hd hh hbs hmay (Nat.le_trans hk hm) hk2)
          have HTK : Aside0 (candN d (beN h % nN) k = (candN d (beN h % nN) m).take k) := Aside0.mk (cand_fewer hk)
          have HALL := Aside0.mk (cand_all d (beN h % nN) m)
          have HLM := Aside0.mk hs2
          have HM16 := Aside0.mk hm
          have t2 : (((m : Nat) : Int) == ((m : Nat) : Int)) = true := by simp
          have t3 : (((k : Nat) : Int) == ((k : Nat) : Int)) = true := by simp
          clear hs2 hs hk2 hk hd hh hbs h0 h16 hm hmay
          generalize candN d (beN h % nN) m = R at *
          generalize candN d (beN h % nN) k = R2 at *
          unfold digV
          go_enter Try.func4, Try.ntmps4
          go_upto_region 1 with (fail)
          refine wp_at (w2 := (World.alloc (World.alloc w (.cells (nw d).toArray 24)) (.cells (ints .u8 (cN h)).toArray 26))) rfl ?_
          obtain ⟨x_0, e_0, h_0, b_0, s_0⟩ := new_num w d
          obtain ⟨x_1, e_1, h_1, b_1, s_1⟩ := new_dig x_0 h
          rw [e_0, e_1]
          rw [s_0] at h_1 s_1
          have HB : Aside0 (Below w.heap.size w x_1) := Aside0.mk (bl_both b_0 b_1)
          have HD : Aside0 (NAt x_1 (w.heap.size) d) := Aside0.mk (h_0.on b_1)
          have HH : Aside0 (Arr .u8 26 x_1 (w.heap.size + 1) (cN h)) := Aside0.mk h_1
          have HS : Aside0 (w.heap.size + 1 + 1 ≤ x_1.heap.size) := Aside0.mk (Nat.le_of_eq s_1.symm)
          clear e_0 h_0 b_0 s_0 e_1 h_1 b_1 s_1
          obtain ⟨w1, hw_⟩ : ∃ x, x = x_1 := ⟨_, rfl⟩
          subst hw_
          clear x_0
          go_upto_region 5 with (first | ((with_reducible refine gate_callee (f := 5) rfl ?_); refine goesL_ (some 16) rfl rfl Try.func5 (by kernel_rfl) rfl #[] rfl (by (try simp only [List.map_toArray, List.map_cons, List.map_nil]); first | done | rfl) ?_; (with_reducible refine (HUP.out _).mono ?_); rintro e u16 ⟨rfl, hb_⟩; replace HD := Aside0.mk (HD.out.on hb_); replace HH := Aside0.mk (HH.out.on hb_); replace HB := Aside0.mk (bl_on HB.out hb_ HB.out.size); clear hb_; refine ⟨_, rfl, ?_⟩) | ((with_reducible refine gate_dst (N := 18) rfl ?_); refine ld_num (HD.out.range) rfl _ rfl rfl ?_) | ((with_reducible refine gate_dst (N := 19) rfl ?_); refine ld_dig (HH.out) (HHL.out) rfl _ rfl rfl ?_) | ((with_reducible refine gate_callee (f := 6) rfl ?_); refine goesL_ (some 21) rfl rfl Try.func6 (by kernel_rfl) rfl #[numV d, digV h, .int .i64 (m : Int)] rfl (by (try simp only [List.map_toArray, List.map_cons, List.map_nil]); first | done | rfl) ?_; (with_reducible refine (HLS.out _).mono ?_); rintro e u21 ⟨A1, c1, rfl, hn_, hb_⟩; replace HD := Aside0.mk (HD.out.on hb_); replace HH := Aside0.mk (HH.out.on hb_); replace HB := Aside0.mk (bl_on HB.out hb_ HB.out.size); clear hb_; refine ⟨_, rfl, ?_⟩))
          have HN1 := Aside0.mk hn_
          clear hn_
          go_upto_region 8 with (first | ((with_reducible refine gate_dst (N := 46) rfl ?_); refine ld_num (HD.out.range) rfl _ rfl rfl ?_) | ((with_reducible refine gate_dst (N := 47) rfl ?_); refine ld_dig (HH.out) (HHL.out) rfl _ rfl rfl ?_) | ((with_reducible refine gate_callee (f := 6) rfl ?_); refine goesL_ (some 49) rfl rfl Try.func6 (by kernel_rfl) rfl #[numV d, digV h, .int .i64 (k : Int)] rfl (by (try simp only [List.map_toArray, List.map_cons, List.map_nil]); first | done | rfl) ?_; (with_reducible refine (HLK.out _).mono ?_); rintro e u49 ⟨A2, c2, rfl, hn_, hb_⟩; replace HD := Aside0.mk (HD.out.on hb_); replace HH := Aside0.mk (HH.out.on hb_); replace HB := Aside0.mk (bl_on HB.out hb_ HB.out.size); replace HN1 := Aside0.mk (HN1.out.on hb_); have HN2 := Aside0.mk hn_; clear hn_; clear hb_; refine ⟨_, rfl, ?_⟩))
          clear t2 t3 HD HH HLS HLK HUP hf0 hf1
          go_wp2
          go_loopw [14] (fun vi wr => ∃ i : Nat, i ≤ m ∧ vi = .int .i64 (i : Int) ∧ Aside0 (Below u49.heap.size u49 wr))
            (fun vi _ => m - (intOf vi).toNat)
          case atStart => exact ⟨0, by omega, rfl, Aside0.mk (Below.refl _ _)⟩
          case round =>
            obtain ⟨i, hi, rfl, HW⟩ := hrel
            by_cases hlt : i < m
            · have t1 : ((i : Nat) : Int) < ((m : Nat) : Int) := by omega
              obtain ⟨x, hx⟩ : ∃ x, R[i]? = some x := ⟨_, List.getElem?_eq_getElem (by rw [HLM.out]; exact hlt)⟩
              obtain ⟨g1, rfl, hr1⟩ := HN1.out.range hx
              have HX := Aside0.mk hx
              have HXM := Aside0.mk (HALL.out x (List.mem_of_getElem? hx))
              have HLT := Aside0.mk hlt
              have t5 : ((i : Nat) : Int) < 16 := by have := HM16.out; omega
              clear hx hr1 hlt hi
              go_upto_region 12 with (first | ((with_reducible refine gate_dst (N := 75) rfl ?_); refine ld_num (HN1.out.rangeAt HW.out HX.out) rfl _ rfl rfl ?_) | ((with_reducible refine gate_callee (f := 7) rfl ?_); refine goesL_ (some 76) rfl rfl Try.func7 (by kernel_rfl) rfl #[numV x] rfl (by (try simp only [List.map_toArray, List.map_cons, List.map_nil]); first | done | rfl) ?_; (with_reducible refine (rmay_true x HXM.out _).mono ?_); rintro e u76 ⟨rfl, hb_⟩; have HX76 := Aside0.mk hb_; clear hb_; refine ⟨_, rfl, ?_⟩))
              have HW76 := Aside0.mk (bl_on HW.out HX76.out HW.out.size)
              have hq := fun w => neq_same (may_lt HXM.out) w
              by_cases hik : i < k
              · have t4 : ((i : Nat) : Int) < ((k : Nat) : Int) := by omega
                have hx2 : R2[i]? = some x := by rw [HTK.out, List.getElem?_take, if_pos hik]; exact HX.out
                obtain ⟨g2, rfl, hr2⟩ := HN2.out.range hx2
                have HX2 := Aside0.mk hx2
                clear hx2 hr2 hik
                refine start_ (n := 19) (S := fun w' => Below u76.heap.size u76 w') (ds := []) #[false, false, false, false, false, false, false, false, false, false, false, false, false, false, false, false, false, false, false] (by kernel_rfl) rfl rfl ((Below.refl _ _).drew) (fun hHeld => ?_)
                refine pure_ (i := 0) (N := some 77) (v := ?_) (a' := ?_) #[true, false, false, false, false, false, false, false, false, false, false, false, false, false, false, false, false, false, false] rfl rfl (by kernel_rfl) (fun _ _ _ h => h) (Or.inl ⟨by rfl, ?_⟩) ?_ ?_
                rotate_left
                · intro w'
                  go_simp
                  with_reducible rfl
                rotate_left
                · simp only [Act.put, List.setIfInBounds_toArray, List.set_cons_zero, List.set_cons_succ, i64_w, i32_w]
                  rfl
                refine pure_ (i := 1) (N := some 78) (v := ?_) (a' := ?_) #[true, true, false, false, false, false, false, false, false, false, false, false, false, false, false, false, false, false, false] rfl rfl (by kernel_rfl) (fun _ _ _ h => h) (Or.inl ⟨by rfl, ?_⟩) ?_ ?_
                rotate_left
                · intro w'
                  go_simp
                  with_reducible rfl
                rotate_left
                · simp only [Act.put, List.setIfInBounds_toArray, List.set_cons_zero, List.set_cons_succ, i64_w, i32_w]
                  rfl
                refine pure_ (i := 2) (N := some 79) (v := ?_) (a' := ?_) #[true, true, true, false, false, false, false, false, false, false, false, false, false, false, false, false, false, false, false] rfl rfl (by kernel_rfl) (fun _ _ _ h => h) (Or.inl ⟨by rfl, ?_⟩) ?_ ?_
                rotate_left
                · intro w'
                  go_simp
                  with_reducible rfl
                rotate_left
                · simp only [Act.put, List.setIfInBounds_toArray, List.set_cons_zero, List.set_cons_succ, i64_w, i32_w]
                  rfl
                refine pure_ (i := 3) (N := some 80) (v := ?_) (a' := ?_) #[true, true, true, true, false, false, false, false, false, false, false, false, false, false, false, false, false, false, false] rfl rfl (by kernel_rfl) (fun _ _ _ h => h) (Or.inl ⟨by rfl, ?_⟩) ?_ ?_
                rotate_left
                · intro w'
                  go_simp
                  with_reducible rfl
                rotate_left
                · simp only [Act.put, List.setIfInBounds_toArray, List.set_cons_zero, List.set_cons_succ, i64_w, i32_w]
                  rfl
                refine pure_ (i := 4) (N := some 81) (v := ?_) (a' := ?_) #[true, true, true, true, true, false, false, false, false, false, false, false, false, false, false, false, false, false, false] rfl rfl (by kernel_rfl) (fun _ _ _ h => h) (Or.inl ⟨by rfl, ?_⟩) ?_ ?_
                rotate_left
                · intro w'
                  go_simp
                  with_reducible rfl
                rotate_left
                · simp only [Act.put, List.setIfInBounds_toArray, List.set_cons_zero, List.set_cons_succ, i64_w, i32_w]
                  rfl
                refine pure_ (i := 5) (N := some 82) (v := ?_) (a' := ?_) #[true, true, true, true, true, true, false, false, false, false, false, false, false, false, false, false, false, false, false] rfl rfl (by kernel_rfl) (fun _ _ _ h => h) (Or.inl ⟨by rfl, ?_⟩) ?_ ?_
                rotate_left
                · intro w'
                  go_simp
                  with_reducible rfl
                rotate_left
                · simp only [Act.put, List.setIfInBounds_toArray, List.set_cons_zero, List.set_cons_succ, i64_w, i32_w]
                  rfl
                refine pure_ (i := 6) (N := some 83) (v := ?_) (a' := ?_) #[true, true, true, true, true, true, true, false, false, false, false, false, false, false, false, false, false, false, false] rfl rfl (by kernel_rfl) (fun _ _ _ h => h) (Or.inl ⟨by rfl, ?_⟩) ?_ ?_
                rotate_left
                · intro w'
                  go_simp
                  with_reducible rfl
                rotate_left
                · simp only [Act.put, List.setIfInBounds_toArray, List.set_cons_zero, List.set_cons_succ, i64_w, i32_w]
                  rfl
                refine pure_ (i := 7) (N := some 84) (v := ?_) (a' := ?_) #[true, true, true, true, true, true, true, true, false, false, false, false, false, false, false, false, false, false, false] rfl rfl (by kernel_rfl) (fun _ _ _ h => h) (Or.inl ⟨by rfl, ?_⟩) ?_ ?_
                rotate_left
                · intro w'
                  go_simp
                  with_reducible rfl
                rotate_left
                · simp only [Act.put, List.setIfInBounds_toArray, List.set_cons_zero, List.set_cons_succ, i64_w, i32_w]
                  rfl
                refine pure_ (i := 8) (N := some 85) (v := ?_) (a' := ?_) #[true, true, true, true, true, true, true, true, true, false, false, false, false, false, false, false, false, false, false] rfl rfl (by kernel_rfl) (fun _ _ _ h => h) (Or.inl ⟨by rfl, ?_⟩) ?_ ?_
                rotate_left
                · intro w'
                  go_simp
                  with_reducible rfl
                rotate_left
                · simp only [Act.put, List.setIfInBounds_toArray, List.set_cons_zero, List.set_cons_succ, i64_w, i32_w]
                  rfl
                refine pure_ (i := 9) (N := some 86) (v := ?_) (a' := ?_) #[true, true, true, true, true, true, true, true, true, true, false, false, false, false, false, false, false, false, false] rfl rfl (by kernel_rfl) (fun _ _ _ h => h) (Or.inl ⟨by rfl, ?_⟩) ?_ ?_
                rotate_left
                · intro w'
                  go_simp
                  with_reducible rfl
                rotate_left
                · simp only [Act.put, List.setIfInBounds_toArray, List.set_cons_zero, List.set_cons_succ, i64_w, i32_w]
                  rfl
                refine pure_ (i := 10) (N := some 87) (v := ?_) (a' := ?_) #[true, true, true, true, true, true, true, true, true, true, true, false, false, false, false, false, false, false, false] rfl rfl (by kernel_rfl) (fun _ _ _ h => h) (Or.inl ⟨by rfl, ?_⟩) ?_ ?_
                rotate_left
                · intro w'
                  go_simp
                  with_reducible rfl
                rotate_left
                · simp only [Act.put, List.setIfInBounds_toArray, List.set_cons_zero, List.set_cons_succ, i64_w, i32_w]
                  rfl
                refine pure_ (i := 12) (N := some 89) (v := ?_) (a' := ?_) #[true, true, true, true, true, true, true, true, true, true, true, false, true, false, false, false, false, false, false] rfl rfl (by kernel_rfl) (fun _ _ _ h => h) (Or.inl ⟨by rfl, ?_⟩) ?_ ?_
                rotate_left
                · intro w'
                  go_simp
                  with_reducible rfl
                rotate_left
                · simp only [Act.put, List.setIfInBounds_toArray, List.set_cons_zero, List.set_cons_succ, i64_w, i32_w]
                  rfl
                refine pure_ (i := 13) (N := some 90) (v := ?_) (a' := ?_) #[true, true, true, true, true, true, true, true, true, true, true, false, true, true, false, false, false, false, false] rfl rfl (by kernel_rfl) (fun _ _ _ h => h) (Or.inl ⟨by rfl, ?_⟩) ?_ ?_
                rotate_left
                · intro w'
                  go_simp
                  with_reducible rfl
                rotate_left
                · simp only [Act.put, List.setIfInBounds_toArray, List.set_cons_zero, List.set_cons_succ, i64_w, i32_w]
                  rfl
                refine pure_ (i := 14) (N := some 91) (v := ?_) (a' := ?_) #[true, true, true, true, true, true, true, true, true, true, true, false, true, true, true, false, false, false, false] rfl rfl (by kernel_rfl) (fun _ _ _ h => h) (Or.inl ⟨by rfl, ?_⟩) ?_ ?_
                rotate_left
                · intro w'
                  go_simp
                  with_reducible rfl
                rotate_left
                · simp only [Act.put, List.setIfInBounds_toArray, List.set_cons_zero, List.set_cons_succ, i64_w, i32_w]
                  rfl
                refine take_ (i := 11) (N := some 88) (a' := ?_) #[true, true, true, true, true, true, true, true, true, true, true, true, true, true, true, false, false, false, false] rfl rfl (by kernel_rfl) (fun _ _ _ h => h) (yields_num (g := g2) (o := i * 4) (n := x) (by rfl) (.tmp 87) rfl rfl (fun w' hS => HN2.out.rangeAt (bl_on HW76.out hS HW76.out.size) HX2.out)) hHeld ?_ ?_
                rotate_left
                · simp only [Act.put, List.setIfInBounds_toArray, List.set_cons_zero, List.set_cons_succ, i64_w, i32_w]
                  rfl
                refine take_ (i := 15) (N := some 92) (a' := ?_) #[true, true, true, true, true, true, true, true, true, true, true, true, true, true, true, true, false, false, false] rfl rfl (by kernel_rfl) (fun _ _ _ h => h) (yields_num (g := g1) (o := i * 4) (n := x) (by rfl) (.tmp 91) rfl rfl (fun w' hS => HN1.out.rangeAt (bl_on HW76.out hS HW76.out.size) HX.out)) hHeld ?_ ?_
                rotate_left
                · simp only [Act.put, List.setIfInBounds_toArray, List.set_cons_zero, List.set_cons_succ, i64_w, i32_w]
                  rfl
                refine pure_ (i := 16) (N := some 93) (v := ?_) (a' := ?_) #[true, true, true, true, true, true, true, true, true, true, true, true, true, true, true, true, true, false, false] rfl rfl (by kernel_rfl) (fun _ _ _ h => h) (Or.inl ⟨by rfl, ?_⟩) ?_ ?_
                rotate_left
                · intro w'
                  go_simp
                  with_reducible rfl
                rotate_left
                · simp only [Act.put, List.setIfInBounds_toArray, List.set_cons_zero, List.set_cons_succ, i64_w, i32_w]
                  rfl
                refine pure_ (i := 17) (N := some 94) (v := ?_) (a' := ?_) #[true, true, true, true, true, true, true, true, true, true, true, true, true, true, true, true, true, true, false] rfl rfl (by kernel_rfl) (fun _ _ _ h => h) (Or.inl ⟨by rfl, ?_⟩) ?_ ?_
                rotate_left
                · intro w'
                  go_simp
                  with_reducible rfl
                rotate_left
                · simp only [Act.put, List.setIfInBounds_toArray, List.set_cons_zero, List.set_cons_succ, i64_w, i32_w]
                  rfl
                refine pure_ (i := 18) (N := some 95) (v := ?_) (a' := ?_) #[true, true, true, true, true, true, true, true, true, true, true, true, true, true, true, true, true, true, true] rfl rfl (by kernel_rfl) (fun _ _ _ h => h) (Or.inl ⟨by rfl, ?_⟩) ?_ ?_
                rotate_left
                · intro w'
                  go_simp
                  with_reducible rfl
                rotate_left
                · simp only [Act.put, List.setIfInBounds_toArray, List.set_cons_zero, List.set_cons_succ, i64_w, i32_w]
                  rfl
                refine done_ (by kernel_rfl) ?_
                have HXZ := Aside0.mk hHeld
                clear hHeld hq
                go_wp2
                exact ⟨⟨i + 1, HLT.out, by rw [Int.natCast_add]; rfl, Aside0.mk (bl_on HW76.out HXZ.out HW76.out.size)⟩, meas_i HLT.out⟩
              · have t4 : ¬ ((i : Nat) : Int) < ((k : Nat) : Int) := by omega
                clear hik
                refine start_ (n := 19) (S := fun w' => Below u76.heap.size u76 w') (ds := []) #[false, false, false, false, false, false, false, false, false, false, false, false, false, false, false, false, false, false, false] (by kernel_rfl) rfl rfl ((Below.refl _ _).drew) (fun hHeld => ?_)
                refine pure_ (i := 0) (N := some 77) (v := ?_) (a' := ?_) #[true, false, false, false, false, false, false, false, false, false, false, false, false, false, false, false, false, false, false] rfl rfl (by kernel_rfl) (fun _ _ _ h => h) (Or.inl ⟨by rfl, ?_⟩) ?_ ?_
                rotate_left
                · intro w'
                  go_simp
                  with_reducible rfl
                rotate_left
                · simp only [Act.put, List.setIfInBounds_toArray, List.set_cons_zero, List.set_cons_succ, i64_w, i32_w]
                  rfl
                refine pure_ (i := 1) (N := some 78) (v := ?_) (a' := ?_) #[true, true, false, false, false, false, false, false, false, false, false, false, false, false, false, false, false, false, false] rfl rfl (by kernel_rfl) (fun _ _ _ h => h) (Or.inl ⟨by rfl, ?_⟩) ?_ ?_
                rotate_left
                · intro w'
                  go_simp
                  with_reducible rfl
                rotate_left
                · simp only [Act.put, List.setIfInBounds_toArray, List.set_cons_zero, List.set_cons_succ, i64_w, i32_w]
                  rfl
                refine pure_ (i := 2) (N := some 79) (v := ?_) (a' := ?_) #[true, true, true, false, false, false, false, false, false, false, false, false, false, false, false, false, false, false, false] rfl rfl (by kernel_rfl) (fun _ _ _ h => h) (Or.inl ⟨by rfl, ?_⟩) ?_ ?_
                rotate_left
                · intro w'
                  go_simp
                  with_reducible rfl
                rotate_left
                · simp only [Act.put, List.setIfInBounds_toArray, List.set_cons_zero, List.set_cons_succ, i64_w, i32_w]
                  rfl
                refine pure_ (i := 3) (N := some 80) (v := ?_) (a' := ?_) #[true, true, true, true, false, false, false, false, false, false, false, false, false, false, false, false, false, false, false] rfl rfl (by kernel_rfl) (fun _ _ _ h => h) (Or.inl ⟨by rfl, ?_⟩) ?_ ?_
                rotate_left
                · intro w'
                  go_simp
                  with_reducible rfl
                rotate_left
                · simp only [Act.put, List.setIfInBounds_toArray, List.set_cons_zero, List.set_cons_succ, i64_w, i32_w]
                  rfl
                refine pure_ (i := 4) (N := some 81) (v := ?_) (a' := ?_) #[true, true, true, true, true, false, false, false, false, false, false, false, false, false, false, false, false, false, false] rfl rfl (by kernel_rfl) (fun _ _ _ h => h) (Or.inl ⟨by rfl, ?_⟩) ?_ ?_
                rotate_left
                · intro w'
                  go_simp
                  with_reducible rfl
                rotate_left
                · simp only [Act.put, List.setIfInBounds_toArray, List.set_cons_zero, List.set_cons_succ, i64_w, i32_w]
                  rfl
                refine pure_ (i := 5) (N := some 82) (v := ?_) (a' := ?_) #[true, true, true, true, true, true, false, false, false, false, false, false, false, false, false, false, false, false, false] rfl rfl (by kernel_rfl) (fun _ _ _ h => h) (Or.inl ⟨by rfl, ?_⟩) ?_ ?_
                rotate_left
                · intro w'
                  go_simp
                  with_reducible rfl
                rotate_left
                · simp only [Act.put, List.setIfInBounds_toArray, List.set_cons_zero, List.set_cons_succ, i64_w, i32_w]
                  rfl
                refine pure_ (i := 6) (N := some 83) (v := ?_) (a' := ?_) #[true, true, true, true, true, true, true, false, false, false, false, false, false, false, false, false, false, false, false] rfl rfl (by kernel_rfl) (fun _ _ _ h => h) (Or.inl ⟨by rfl, ?_⟩) ?_ ?_
                rotate_left
                · intro w'
                  go_simp
                  with_reducible rfl
                rotate_left
                · simp only [Act.put, List.setIfInBounds_toArray, List.set_cons_zero, List.set_cons_succ, i64_w, i32_w]
                  rfl
                refine pure_ (i := 7) (N := some 84) (v := ?_) (a' := ?_) #[true, true, true, true, true, true, true, true, false, false, false, false, false, false, false, false, false, false, false] rfl rfl (by kernel_rfl) (fun _ _ _ h => h) (Or.inl ⟨by rfl, ?_⟩) ?_ ?_
                rotate_left
                · intro w'
                  go_simp
                  with_reducible rfl
                rotate_left
                · simp only [Act.put, List.setIfInBounds_toArray, List.set_cons_zero, List.set_cons_succ, i64_w, i32_w]
                  rfl
                refine pure_ (i := 8) (N := some 85) (v := undef) (a' := ?_) #[true, true, true, true, true, true, true, true, true, false, false, false, false, false, false, false, false, false, false] rfl rfl (by kernel_rfl) (fun _ _ _ h => h) (Or.inr ⟨by rfl, rfl⟩) ?_ ?_
                rotate_left
                · simp only [Act.put, List.setIfInBounds_toArray, List.set_cons_zero, List.set_cons_succ, i64_w, i32_w]
                  rfl
                refine pure_ (i := 9) (N := some 86) (v := undef) (a' := ?_) #[true, true, true, true, true, true, true, true, true, true, false, false, false, false, false, false, false, false, false] rfl rfl (by kernel_rfl) (fun _ _ _ h => h) (Or.inr ⟨by rfl, rfl⟩) ?_ ?_
                rotate_left
                · simp only [Act.put, List.setIfInBounds_toArray, List.set_cons_zero, List.set_cons_succ, i64_w, i32_w]
                  rfl
                refine pure_ (i := 10) (N := some 87) (v := undef) (a' := ?_) #[true, true, true, true, true, true, true, true, true, true, true, false, false, false, false, false, false, false, false] rfl rfl (by kernel_rfl) (fun _ _ _ h => h) (Or.inr ⟨by rfl, rfl⟩) ?_ ?_
                rotate_left
                · simp only [Act.put, List.setIfInBounds_toArray, List.set_cons_zero, List.set_cons_succ, i64_w, i32_w]
                  rfl
                refine pure_ (i := 11) (N := some 88) (v := undef) (a' := ?_) #[true, true, true, true, true, true, true, true, true, true, true, true, false, false, false, false, false, false, false] rfl rfl (by kernel_rfl) (fun _ _ _ h => h) (Or.inr ⟨by rfl, rfl⟩) ?_ ?_
                rotate_left
                · simp only [Act.put, List.setIfInBounds_toArray, List.set_cons_zero, List.set_cons_succ, i64_w, i32_w]
                  rfl
                refine pure_ (i := 12) (N := some 89) (v := undef) (a' := ?_) #[true, true, true, true, true, true, true, true, true, true, true, true, true, false, false, false, false, false, false] rfl rfl (by kernel_rfl) (fun _ _ _ h => h) (Or.inr ⟨by rfl, rfl⟩) ?_ ?_
                rotate_left
                · simp only [Act.put, List.setIfInBounds_toArray, List.set_cons_zero, List.set_cons_succ, i64_w, i32_w]
                  rfl
                refine pure_ (i := 13) (N := some 90) (v := undef) (a' := ?_) #[true, true, true, true, true, true, true, true, true, true, true, true, true, true, false, false, false, false, false] rfl rfl (by kernel_rfl) (fun _ _ _ h => h) (Or.inr ⟨by rfl, rfl⟩) ?_ ?_
                rotate_left
                · simp only [Act.put, List.setIfInBounds_toArray, List.set_cons_zero, List.set_cons_succ, i64_w, i32_w]
                  rfl
                refine pure_ (i := 14) (N := some 91) (v := undef) (a' := ?_) #[true, true, true, true, true, true, true, true, true, true, true, true, true, true, true, false, false, false, false] rfl rfl (by kernel_rfl) (fun _ _ _ h => h) (Or.inr ⟨by rfl, rfl⟩) ?_ ?_
                rotate_left
                · simp only [Act.put, List.setIfInBounds_toArray, List.set_cons_zero, List.set_cons_succ, i64_w, i32_w]
                  rfl
                refine pure_ (i := 15) (N := some 92) (v := undef) (a' := ?_) #[true, true, true, true, true, true, true, true, true, true, true, true, true, true, true, true, false, false, false] rfl rfl (by kernel_rfl) (fun _ _ _ h => h) (Or.inr ⟨by rfl, rfl⟩) ?_ ?_
                rotate_left
                · simp only [Act.put, List.setIfInBounds_toArray, List.set_cons_zero, List.set_cons_succ, i64_w, i32_w]
                  rfl
                refine pure_ (i := 16) (N := some 93) (v := undef) (a' := ?_) #[true, true, true, true, true, true, true, true, true, true, true, true, true, true, true, true, true, false, false] rfl rfl (by kernel_rfl) (fun _ _ _ h => h) (Or.inr ⟨by rfl, rfl⟩) ?_ ?_
                rotate_left
                · simp only [Act.put, List.setIfInBounds_toArray, List.set_cons_zero, List.set_cons_succ, i64_w, i32_w]
                  rfl
                refine pure_ (i := 17) (N := some 94) (v := ?_) (a' := ?_) #[true, true, true, true, true, true, true, true, true, true, true, true, true, true, true, true, true, true, false] rfl rfl (by kernel_rfl) (fun _ _ _ h => h) (Or.inl ⟨by rfl, ?_⟩) ?_ ?_
                rotate_left
                · intro w'
                  go_simp
                  with_reducible rfl
                rotate_left
                · simp only [Act.put, List.setIfInBounds_toArray, List.set_cons_zero, List.set_cons_succ, i64_w, i32_w]
                  rfl
                refine pure_ (i := 18) (N := some 95) (v := ?_) (a' := ?_) #[true, true, true, true, true, true, true, true, true, true, true, true, true, true, true, true, true, true, true] rfl rfl (by kernel_rfl) (fun _ _ _ h => h) (Or.inl ⟨by rfl, ?_⟩) ?_ ?_
                rotate_left
                · intro w'
                  go_simp
                  with_reducible rfl
                rotate_left
                · simp only [Act.put, List.setIfInBounds_toArray, List.set_cons_zero, List.set_cons_succ, i64_w, i32_w]
                  rfl
                refine done_ (by kernel_rfl) ?_
                have HXZ := Aside0.mk hHeld
                clear hHeld hq
                go_wp2
                exact ⟨⟨i + 1, HLT.out, by rw [Int.natCast_add]; rfl, Aside0.mk (bl_on HW76.out HXZ.out HW76.out.size)⟩, meas_i HLT.out⟩
            · have t1 : ¬ ((i : Nat) : Int) < ((m : Nat) : Int) := by omega
              clear hlt hi
              go_wp2
              go_ret
              exact ⟨rfl, bl_on HB.out HW.out HB.out.size⟩
  · have HLS := Aside0.mk (fun u => list_errA d h many u hd hh hg)
    clear hd hh hbs hg
    unfold digV
    go_enter Try.func4, Try.ntmps4
    go_upto_region 1 with (fail)
    refine wp_at (w2 := (World.alloc (World.alloc w (.cells (nw d).toArray 24)) (.cells (ints .u8 (cN h)).toArray 26))) rfl ?_
    obtain ⟨x_0, e_0, h_0, b_0, s_0⟩ := new_num w d
    obtain ⟨x_1, e_1, h_1, b_1, s_1⟩ := new_dig x_0 h
    rw [e_0, e_1]
    rw [s_0] at h_1 s_1
    have HB : Aside0 (Below w.heap.size w x_1) := Aside0.mk (bl_both b_0 b_1)
    have HD : Aside0 (NAt x_1 (w.heap.size) d) := Aside0.mk (h_0.on b_1)
    have HH : Aside0 (Arr .u8 26 x_1 (w.heap.size + 1) (cN h)) := Aside0.mk h_1
    have HS : Aside0 (w.heap.size + 1 + 1 ≤ x_1.heap.size) := Aside0.mk (Nat.le_of_eq s_1.symm)
    clear e_0 h_0 b_0 s_0 e_1 h_1 b_1 s_1
    obtain ⟨w1, hw_⟩ : ∃ x, x = x_1 := ⟨_, rfl⟩
    subst hw_
    clear x_0
    go_wp2_with (first | ((with_reducible refine gate_callee (f := 5) rfl ?_); refine goesL_ (some 16) rfl rfl Try.func5 (by kernel_rfl) rfl #[] rfl (by (try simp only [List.map_toArray, List.map_cons, List.map_nil]); first | done | rfl) ?_; (with_reducible refine (HUP.out _).mono ?_); rintro e u16 ⟨rfl, hb_⟩; replace HD := Aside0.mk (HD.out.on hb_); replace HH := Aside0.mk (HH.out.on hb_); replace HB := Aside0.mk (bl_on HB.out hb_ HB.out.size); clear hb_; refine ⟨_, rfl, ?_⟩) | ((with_reducible refine gate_dst (N := 18) rfl ?_); refine ld_num (HD.out.range) rfl _ rfl rfl ?_) | ((with_reducible refine gate_dst (N := 19) rfl ?_); refine ld_dig (HH.out) (HHL.out) rfl _ rfl rfl ?_) | ((with_reducible refine gate_callee (f := 6) rfl ?_); refine goesL_ (some 21) rfl rfl Try.func6 (by kernel_rfl) rfl #[numV d, digV h, .int .i64 many] rfl (by (try simp only [List.map_toArray, List.map_cons, List.map_nil]); first | done | rfl) ?_; (with_reducible refine (HLS.out _).mono ?_); rintro e u21 ⟨rfl, hb_⟩; replace HD := Aside0.mk (HD.out.on hb_); replace HH := Aside0.mk (HH.out.on hb_); replace HB := Aside0.mk (bl_on HB.out hb_ HB.out.size); clear hb_; refine ⟨_, rfl, ?_⟩))
    go_ret
    exact ⟨rfl, HB.out⟩
end Go.Proofs.Ytojlhmmmiebbmaa.PNonceLists
