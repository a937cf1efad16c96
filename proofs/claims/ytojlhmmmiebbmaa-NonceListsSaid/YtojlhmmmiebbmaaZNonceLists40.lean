/- What the proof of NonceLists is made of, part 40. -/
import Derived.Test.YtojlhmmmiebbmaaZNonceLists39
namespace Go.Proofs.Ytojlhmmmiebbmaa.PNonceLists
open Go.RowKit Go.Proofs.Ytojlhmmmiebbmaa Go.Proofs.YtojlhmmmiebbmaaW.PrintWords Go.Proofs.YtojlhmmmiebbmaaW.PrintLast Go.Proofs.YtojlhmmmiebbmaaW.PrintMore Go.Proofs.Ytojlhmmmiebbmaa.Sha Go.Proofs.Ytojlhmmmiebbmaa.Arr
attribute [local go_sem] max2_int min2_int max_two min_two max_three min_three max_four min_four
attribute [local go_sem high] eqg_num
set_option linter.unusedVariables false
set_option linter.unusedSimpArgs false
theorem cand_all (d q many : Nat) : ∀ x ∈ candN d q many, mayN x = true := runN_all (fun x => mayN x = true) many 100 _ [] (fun x hx => by cases hx) (fun x hx => hx)
theorem may_lt {x : Nat} (h : mayN x = true) : x < N256 := by
  unfold mayN at h
  have h2 := (decide_eq_true_eq.mp h).2
  exact Nat.lt_trans h2 nN_lt
/-- what nonce.List answers, of short lists and of full ones -/
theorem list_short (d : Nat) (h : List Nat) (many : Nat) (w : World) (hd : d < N256) (hh : h.length = 32) (hbs : Bs h) (hmay : mayN d = true) (hm : many ≤ 16) (hs : (candN d (beN h % nN) many).length < many) :
    Calls Try.prog 6 #[numV d, digV h, .int .i64 (many : Int)] w fun e w' => e = .returned (.tuple #[.slice none 0 0, .iface 34 (.int .i64 4)]) ∧ Below w.heap.size w w' :=
  (list_calls d h many w hd hh hbs hmay hm).mono (fun e w' h => by
    rcases h with ⟨⟨_, h⟩, h2⟩ | ⟨h, _⟩
    · exact ⟨h, h2⟩
    · omega)
theorem list_full (d : Nat) (h : List Nat) (many : Nat) (w : World) (hd : d < N256) (hh : h.length = 32) (hbs : Bs h) (hmay : mayN d = true) (hm : many ≤ 16) (hs : (candN d (beN h % nN) many).length = many) :
    Calls Try.prog 6 #[numV d, digV h, .int .i64 (many : Int)] w fun e w' => ∃ A c, e = .returned (.tuple #[.slice A many c, .nilIface]) ∧ NL w' w.heap.size (.slice A many c) (candN d (beN h % nN) many) ∧ Below w.heap.size w w' :=
  (list_calls d h many w hd hh hbs hmay hm).mono (fun e w' h => by
    rcases h with ⟨⟨h, _⟩, h2⟩ | ⟨_, ⟨v, h, hN⟩, hb⟩
    · omega
    · obtain ⟨A, c, rfl, _⟩ := hN.slice
      rw [hs] at h hN
      exact ⟨A, c, h, hN, hb⟩)
theorem rlist_any (d : Nat) (h : List Nat) (many n : Nat) (w : World) (hd : d < N256) (hh : h.length = 32) (hbs : Bs h) (hm : many ≤ 16) (hn : n = (candN d (beN h % nN) many).length) :
    Calls Try.prog 8 #[numV d, digV h, .int .i64 (many : Int)] w fun e w' => ∃ A c, e = .returned (.slice A n c) ∧ NL w' w.heap.size (.slice A n c) (candN d (beN h % nN) many) ∧ Below w.heap.size w w' :=
  (rlist_calls d h many w hd hh hbs hm).mono (fun e w' h => by
    obtain ⟨⟨v, h, hN⟩, hb⟩ := h
    obtain ⟨A, c, rfl, _⟩ := hN.slice
    rw [← hn] at h hN
    exact ⟨A, c, h, hN, hb⟩)
theorem list_errA (d : Nat) (h : List Nat) (many : Int) (w : World) (hd : d < N256) (hh : h.length = 32) (hbad : ¬(mayN d = true ∧ 0 ≤ many ∧ many ≤ 16)) :
    Calls Try.prog 6 #[numV d, digV h, .int .i64 many] w fun e w' => e = .returned (.tuple #[.slice none 0 0, .iface 34 (.int .i64 1)]) ∧ Below w.heap.size w w' :=
  list_bad d h many w hd hh hbad
theorem eq_code (k : Int) (w : World) : (binOp .eql 30 (.iface 34 (.int .i64 k)) (.iface 34 (.int .i64 k))).run Try.prog w = .ok (.bool true) w := by
  rw [eql_code k k w]
  simp
theorem neq_same {x : Nat} (hx : x < N256) (w : World) : (binOp .neq 24 (numV x) (numV x)).run Try.prog w = .ok (.bool false) w := by
  rw [neq_num hx hx w]
  simp
set_option maxRecDepth 100000 in
set_option maxHeartbeats 8000000 in
theorem lists_walk (d : Nat) (h : List Nat) (many : Int) (hd : d < N256) (hh : h.length = 32) (hbs : Bs h) (w : World) :
    Calls Try.prog 3 #[numV d, digV h, .int .i64 many] w fun e w' => e = .returned (.bool true) ∧ Below w.heap.size w w' := by
  have HUP := Aside0.mk (fun u => up6_calls u)
  have HMY := Aside0.mk (fun u => rmay_calls d u hd)
  have he1 := fun w => eq_code 1 w
  have he4 := fun w => eq_code 4 w
  have HHL := Aside0.mk hh
  by_cases hg : mayN d = true ∧ 0 ≤ many ∧ many ≤ 16
  · obtain ⟨hmay, h0, h16⟩ := hg
    obtain ⟨m, rfl⟩ := Int.eq_ofNat_of_zero_le h0
    have hm : m ≤ 16 := by omega
    have t0 : ¬ ((m : Nat) : Int) < 0 := by omega
    have t1 : ¬ (16 : Int) < ((m : Nat) : Int) := by omega
    rw [hmay] at HMY
    obtain ⟨L, hL⟩ : ∃ L, L = (candN d (beN h % nN) m).length := ⟨_, rfl⟩
    have HRL := Aside0.mk (fun u => rlist_any d h m L u hd hh hbs hm hL)
    have HALL := Aside0.mk (cand_all d (beN h % nN) m)
    by_cases hs : (candN d (beN h % nN) m).length < m
    · have HLS := Aside0.mk (fun u => list_short d h m u hd hh hbs hmay hm hs)
      have t2 : ((L : Nat) : Int) < ((m : Nat) : Int) := by omega
      generalize candN d (beN h % nN) m = R at *
      clear hd hh hbs h0 h16 hm hmay hL hs
      unfold digV
      go_enter Try.func3, Try.ntmps3
      go_upto_region 1 with (fail)
      refine wp_at (w2 := (World.alloc (World.alloc w (.cells (nw d).toArray 24)) (.cells (ints .u8 (cN h)).toArray 26))) rfl ?_
      obtain ⟨x_0, e_0, h_0, b_0, s_0⟩ := new_num w d
      obtain ⟨x_1, e_1, h_1, b_1, s_1⟩ := new_dig x_0 h
      rw [e_0, e_1]
      rw [s_0] at h_1 s_1
      have HB : Aside0 (Below w.heap.size w x_1) := Aside0.mk (bl_both b_0 b_1)
      have HD : Aside0 (NAt x_1 (w.heap.size) d) := Aside0.mk (h_0.on b_1)
      have HH : Aside0 (Arr .u8 26 x_1 (w.heap.size + 1) (cN h)) := Aside0.mk h_1
      have HS : Aside0 (w.heap.size + 1 + 1 ≤ x_1.heap.size) := Aside0.mk (Nat.le_of_eq s_1.symm)
      clear e_0 h_0 b_0 s_0 e_1 h_1 b_1 s_1
      obtain ⟨w1, hw_⟩ : ∃ x, x = x_1 := ⟨_, rfl⟩
      subst hw_
      clear x_0
      go_wp2_with (first | ((with_reducible refine gate_callee (f := 5) rfl ?_); refine goesL_ (some 13) rfl rfl Try.func5 (by kernel_rfl) rfl #[] rfl (by (try simp only [List.map_toArray, List.map_cons, List.map_nil]); first | done | rfl) ?_; (with_reducible refine (HUP.out _).mono ?_); rintro e u13 ⟨rfl, hb_⟩; replace HD := Aside0.mk (HD.out.on hb_); replace HH := Aside0.mk (HH.out.on hb_); replace HB := Aside0.mk (bl_on HB.out hb_ HB.out.size); clear hb_; refine ⟨_, rfl, ?_⟩) | ((with_reducible refine gate_dst (N := 15) rfl ?_); refine ld_num (HD.out.range) rfl _ rfl rfl ?_) | ((with_reducible refine gate_dst (N := 16) rfl ?_); refine ld_dig (HH.out) (HHL.out) rfl _ rfl rfl ?_) | ((with_reducible refine gate_callee (f := 6) rfl ?_); refine goesL_ (some 18) rfl rfl Try.func6 (by kernel_rfl) rfl #[numV d, digV h, .int .i64 (m : Int)] rfl (by (try simp only [List.map_toArray, List.map_cons, List.map_nil]); first | done | rfl) ?_; (with_reducible refine (HLS.out _).mono ?_); rintro e u18 ⟨rfl, hb_⟩; replace HD := Aside0.mk (HD.out.on hb_); replace HH := Aside0.mk (HH.out.on hb_); replace HB := Aside0.mk (bl_on HB.out hb_ HB.out.size); clear hb_; refine ⟨_, rfl, ?_⟩) | ((with_reducible refine gate_dst (N := 21) rfl ?_); refine ld_num (HD.out.range) rfl _ rfl rfl ?_) | ((with_reducible refine gate_callee (f := 7) rfl ?_); refine goesL_ (some 22) rfl rfl Try.func7 (by kernel_rfl) rfl #[numV d] rfl (by (try simp only [List.map_toArray, List.map_cons, List.map_nil]); first | done | rfl) ?_; (with_reducible refine (HMY.out _).mono ?_); rintro e u22 ⟨rfl, hb_⟩; replace HD := Aside0.mk (HD.out.on hb_); replace HH := Aside0.mk (HH.out.on hb_); replace HB := Aside0.mk (bl_on HB.out hb_ HB.out.size); clear hb_; refine ⟨_, rfl, ?_⟩) | ((with_reducible refine gate_dst (N := 44) rfl ?_); refine ld_num (HD.out.range) rfl _ rfl rfl ?_) | ((with_reducible refine gate_dst (N := 45) rfl ?_); refine ld_dig (HH.out) (HHL.out) rfl _ rfl rfl ?_) | ((with_reducible refine gate_callee (f := 8) rfl ?_); refine goesL_ (some 47) rfl rfl Try.func8 (by kernel_rfl) rfl #[numV d, digV h, .int .i64 (m : Int)] rfl (by (try simp only [List.map_toArray, List.map_cons, List.map_nil]); first | done | rfl) ?_; (with_reducible refine (HRL.out _).mono ?_); rintro e u47 ⟨A2, c2, rfl, hn_, hb_⟩; replace HD := Aside0.mk (HD.out.on hb_); replace HH := Aside0.mk (HH.out.on hb_); replace HB := Aside0.mk (bl_on HB.out hb_ HB.out.size); clear hb_ hn_; refine ⟨_, rfl, ?_⟩))
      go_ret
      exact ⟨rfl, HB.out⟩
    · have hs2 : (candN d (beN h % nN) m).length = m := by
        have := runN_len m 100 (stB (byt d ++ byt (beN h % nN)) 2) [] (Nat.zero_le _)
        unfold candN at hs ⊢
        omega
      have HLS := Aside0.mk (fun u => list_full d h m u hd hh hbs hmay hm hs2)
      have hLm : L = m := by omega
      subst hLm
      have t2 : ¬ ((L : Nat) : Int) < ((L : Nat) : Int) := by omega
      have t3 : (((L : Nat) : Int) == ((L : Nat) : Int)) = true := by simp
      have HLR := Aside0.mk hL
      generalize candN d (beN h % nN) L = R at *
      clear hd hh hbs h0 h16 hm hmay hL hs hs2
      unfold digV
      go_enter Try.func3, Try.ntmps3
      go_upto_region 1 with (fail)
      refine wp_at (w2 := (World.alloc (World.alloc w (.cells (nw d).toArray 24)) (.cells (ints .u8 (cN h)).toArray 26))) rfl ?_
      obtain ⟨x_0, e_0, h_0, b_0, s_0⟩ := new_num w d
      obtain ⟨x_1, e_1, h_1, b_1, s_1⟩ := new_dig x_0 h
      rw [e_0, e_1]
      rw [s_0] at h_1 s_1
      have HB : Aside0 (Below w.heap.size w x_1) := Aside0.mk (bl_both b_0 b_1)
      have HD : Aside0 (NAt x_1 (w.heap.size) d) := Aside0.mk (h_0.on b_1)
      have HH : Aside0 (Arr .u8 26 x_1 (w.heap.size + 1) (cN h)) := Aside0.mk h_1
      have HS : Aside0 (w.heap.size + 1 + 1 ≤ x_1.heap.size) := Aside0.mk (Nat.le_of_eq s_1.symm)
      clear e_0 h_0 b_0 s_0 e_1 h_1 b_1 s_1
      obtain ⟨w1, hw_⟩ : ∃ x, x = x_1 := ⟨_, rfl⟩
      subst hw_
      clear x_0
      go_upto_region 3 with (first | ((with_reducible refine gate_callee (f := 5) rfl ?_); refine goesL_ (some 13) rfl rfl Try.func5 (by kernel_rfl) rfl #[] rfl (by (try simp only [List.map_toArray, List.map_cons, List.map_nil]); first | done | rfl) ?_; (with_reducible refine (HUP.out _).mono ?_); rintro e u13 ⟨rfl, hb_⟩; replace HD := Aside0.mk (HD.out.on hb_); replace HH := Aside0.mk (HH.out.on hb_); replace HB := Aside0.mk (bl_on HB.out hb_ HB.out.size); clear hb_; refine ⟨_, rfl, ?_⟩) | ((with_reducible refine gate_dst (N := 15) rfl ?_); refine ld_num (HD.out.range) rfl _ rfl rfl ?_) | ((with_reducible refine gate_dst (N := 16) rfl ?_); refine ld_dig (HH.out) (HHL.out) rfl _ rfl rfl ?_) | ((with_reducible refine gate_callee (f := 6) rfl ?_); refine goesL_ (some 18) rfl rfl Try.func6 (by kernel_rfl) rfl #[numV d, digV h, .int .i64 (L : Int)] rfl (by (try simp only [List.map_toArray, List.map_cons, List.map_nil]); first | done | rfl) ?_; (with_reducible refine (HLS.out _).mono ?_); rintro e u18 ⟨A1, c1, rfl, hn_, hb_⟩; replace HD := Aside0.mk (HD.out.on hb_); replace HH := Aside0.mk (HH.out.on hb_); replace HB := Aside0.mk (bl_on HB.out hb_ HB.out.size); clear hb_; refine ⟨_, rfl, ?_⟩))
      have HN1 := Aside0.mk hn_
      clear hn_
      go_upto_region 6 with (first | ((with_reducible refine gate_dst (N := 21) rfl ?_); refine ld_num (HD.out.range) rfl _ rfl rfl ?_) | ((with_reducible refine gate_callee (f := 7) rfl ?_); refine goesL_ (some 22) rfl rfl Try.func7 (by kernel_rfl) rfl #[numV d] rfl (by (try simp only [List.map_toArray, List.map_cons, List.map_nil]); first | done | rfl) ?_; (with_reducible refine (HMY.out _).mono ?_); rintro e u22 ⟨rfl, hb_⟩; replace HD := Aside0.mk (HD.out.on hb_); replace HH := Aside0.mk (HH.out.on hb_); replace HB := Aside0.mk (bl_on HB.out hb_ HB.out.size); replace HN1 := Aside0.mk (HN1.out.on hb_); clear hb_; refine ⟨_, rfl, ?_⟩))
      go_upto_region 11 with (first | ((with_reducible refine gate_dst (N := 44) rfl ?_); refine ld_num (HD.out.range) rfl _ rfl rfl ?_) | ((with_reducible refine gate_dst (N := 45) rfl ?_); refine ld_dig (HH.out) (HHL.out) rfl _ rfl rfl ?_) | ((with_reducible refine gate_callee (f := 8) rfl ?_); refine goesL_ (some 47) rfl rfl Try.func8 (by kernel_rfl) rfl #[numV d, digV h, .int .i64 (L : Int)] rfl (by (try simp only [List.map_toArray, List.map_cons, List.map_nil]); first | done | rfl) ?_; (with_reducible refine (HRL.out _).mono ?_); rintro e u47 ⟨A2, c2, rfl, hn_, hb_⟩; replace HD := Aside0.mk (HD.out.on hb_); replace HH := Aside0.mk (HH.out.on hb_); replace HB := Aside0.mk (bl_on HB.out hb_ HB.out.size); replace HN1 := Aside0.mk (HN1.out.on hb_); have HN2 := Aside0.mk hn_; clear hb_ hn_; refine ⟨_, rfl, ?_⟩))
      clear t2 t3 HD HH HLS HRL HMY HUP
      go_wp2
      go_loopw [12] (fun vi wr => ∃ i : Nat, i ≤ L ∧ vi = .int .i64 (i : Int) ∧ Aside0 (Below u47.heap.size u47 wr))
        (fun vi _ => L - (intOf vi).toNat)
      case atStart => exact ⟨0, by omega, rfl, Aside0.mk (Below.refl _ _)⟩
      case round =>
        obtain ⟨i, hi, rfl, HW⟩ := hrel
        by_cases hlt : i < L
        · have t1 : ((i : Nat) : Int) < ((L : Nat) : Int) := by omega
          obtain ⟨x, hx⟩ : ∃ x, R[i]? = some x := ⟨_, List.getElem?_eq_getElem (by rw [← HLR.out]; exact hlt)⟩
          obtain ⟨g1, rfl, hr1⟩ := HN1.out.range hx
          obtain ⟨g2, rfl, hr2⟩ := HN2.out.range hx
          have HX1 : Aside0 (∀ W, Below wr.heap.size wr W → W.rangeAt g1 (i * 4) (nw x)) := Aside0.mk (fun W hb => by
            obtain ⟨g, e, h⟩ := ((HN1.out.on HW.out).on hb).range hx
            injection e with e
            injection e with e
            subst e
            rw [Nat.mul_comm]
            exact h)
          have HX2 : Aside0 (∀ W, Below wr.heap.size wr W → W.rangeAt g2 (i * 4) (nw x)) := Aside0.mk (fun W hb => by
            obtain ⟨g, e, h⟩ := ((HN2.out.on HW.out).on hb).range hx
            injection e with e
            injection e with e
            subst e
            rw [Nat.mul_comm]
            exact h)
          have hq := fun w => neq_same (may_lt (HALL.out x (List.mem_of_getElem? hx))) w
          have HLT := Aside0.mk hlt
          clear hx hr1 hr2 hlt hi
          go_wp2
          refine start_ (n := 9) (S := fun w' => Below wr.heap.size wr w') (ds := []) #[false, false, false, false, false, false, false, false, false] (by kernel_rfl) rfl rfl ((Below.refl _ _).drew) (fun hHeld => ?_)
          refine pure_ (i := 0) (N := some 78) (v := ?_) (a' := ?_) #[true, false, false, false, false, false, false, false, false] rfl rfl (by kernel_rfl) (fun _ _ _ h => h) (Or.inl ⟨by rfl, ?_⟩) ?_ ?_
          rotate_left
          · intro w'
            go_simp
            with_reducible rfl
          rotate_left
          · simp only [Act.put, List.setIfInBounds_toArray, List.set_cons_zero, List.set_cons_succ, i64_w, i32_w]
            rfl
          refine pure_ (i := 1) (N := some 79) (v := ?_) (a' := ?_) #[true, true, false, false, false, false, false, false, false] rfl rfl (by kernel_rfl) (fun _ _ _ h => h) (Or.inl ⟨by rfl, ?_⟩) ?_ ?_
          rotate_left
          · intro w'
            go_simp
            with_reducible rfl
          rotate_left
          · simp only [Act.put, List.setIfInBounds_toArray, List.set_cons_zero, List.set_cons_succ, i64_w, i32_w]
            rfl
          refine pure_ (i := 2) (N := some 80) (v := ?_) (a' := ?_) #[true, true, true, false, false, false, false, false, false] rfl rfl (by kernel_rfl) (fun _ _ _ h => h) (Or.inl ⟨by rfl, ?_⟩) ?_ ?_
          rotate_left
          · intro w'
            go_simp
            with_reducible rfl
          rotate_left
          · simp only [Act.put, List.setIfInBounds_toArray, List.set_cons_zero, List.set_cons_succ, i64_w, i32_w]
            rfl
          refine pure_ (i := 4) (N := some 82) (v := ?_) (a' := ?_) #[true, true, true, false, true, false, false, false, false] rfl rfl (by kernel_rfl) (fun _ _ _ h => h) (Or.inl ⟨by rfl, ?_⟩) ?_ ?_
          rotate_left
          · intro w'
            go_simp
            with_reducible rfl
          rotate_left
          · simp only [Act.put, List.setIfInBounds_toArray, List.set_cons_zero, List.set_cons_succ, i64_w, i32_w]
            rfl
          refine pure_ (i := 5) (N := some 83) (v := ?_) (a' := ?_) #[true, true, true, false, true, true, false, false, false] rfl rfl (by kernel_rfl) (fun _ _ _ h => h) (Or.inl ⟨by rfl, ?_⟩) ?_ ?_
          rotate_left
          · intro w'
            go_simp
            with_reducible rfl
          rotate_left
          · simp only [Act.put, List.setIfInBounds_toArray, List.set_cons_zero, List.set_cons_succ, i64_w, i32_w]
            rfl
          refine pure_ (i := 6) (N := some 84) (v := ?_) (a' := ?_) #[true, true, true, false, true, true, true, false, false] rfl rfl (by kernel_rfl) (fun _ _ _ h => h) (Or.inl ⟨by rfl, ?_⟩) ?_ ?_
          rotate_left
          · intro w'
            go_simp
            with_reducible rfl
          rotate_left
          · simp only [Act.put, List.setIfInBounds_toArray, List.set_cons_zero, List.set_cons_succ, i64_w, i32_w]
            rfl
          refine take_ (i := 3) (N := some 81) (a' := ?_) #[true, true, true, true, true, true, true, false, false] rfl rfl (by kernel_rfl) (fun _ _ _ h => h) (yields_num (g := g1) (o := i * 4) (n := x) (by rfl) (.tmp 80) rfl rfl (fun w' hS => HX1.out _ hS)) hHeld ?_ ?_
          rotate_left
          · simp only [Act.put, List.setIfInBounds_toArray, List.set_cons_zero, List.set_cons_succ, i64_w, i32_w]
            rfl
          refine take_ (i := 7) (N := some 85) (a' := ?_) #[true, true, true, true, true, true, true, true, false] rfl rfl (by kernel_rfl) (fun _ _ _ h => h) (yields_num (g := g2) (o := i * 4) (n := x) (by rfl) (.tmp 84) rfl rfl (fun w' hS => HX2.out _ hS)) hHeld ?_ ?_
          rotate_left
          · simp only [Act.put, List.setIfInBounds_toArray, List.set_cons_zero, List.set_cons_succ, i64_w, i32_w]
            rfl
          refine pure_ (i := 8) (N := some 86) (v := ?_) (a' := ?_) #[true, true, true, true, true, true, true, true, true] rfl rfl (by kernel_rfl) (fun _ _ _ h => h) (Or.inl ⟨by rfl, ?_⟩) ?_ ?_
          rotate_left
          · intro w'
            go_simp
            with_reducible rfl
          rotate_left
          · simp only [Act.put, List.setIfInBounds_toArray, List.set_cons_zero, List.set_cons_succ, i64_w, i32_w]
            rfl
          refine done_ (by kernel_rfl) ?_
          have HX := Aside0.mk hHeld
          clear hHeld hq
          go_wp2
          exact ⟨⟨i + 1, HLT.out, by rw [Int.natCast_add]; rfl, Aside0.mk (bl_on HW.out HX.out HW.out.size)⟩, meas_i HLT.out⟩
        · have t1 : ¬ ((i : Nat) : Int) < ((L : Nat) : Int) := by omega
          clear hlt hi
          go_wp2
          go_ret
          exact ⟨rfl, bl_on HB.out HW.out HB.out.size⟩
  · have HLS := Aside0.mk (fun u => list_errA d h many u hd hh hg)
    clear hd hh hbs
    unfold digV
    obtain ⟨D, hD⟩ : ∃ D, D = mayN d := ⟨_, rfl⟩
    rw [← hD] at HMY hg
    clear hD
    go_enter Try.func3, Try.ntmps3
    go_upto_region 1 with (fail)
    refine wp_at (w2 := (World.alloc (World.alloc w (.cells (nw d).toArray 24)) (.cells (ints .u8 (cN h)).toArray 26))) rfl ?_
    obtain ⟨x_0, e_0, h_0, b_0, s_0⟩ := new_num w d
    obtain ⟨x_1, e_1, h_1, b_1, s_1⟩ := new_dig x_0 h
    rw [e_0, e_1]
    rw [s_0] at h_1 s_1
    have HB : Aside0 (Below w.heap.size w x_1) := Aside0.mk (bl_both b_0 b_1)
    have HD : Aside0 (NAt x_1 (w.heap.size) d) := Aside0.mk (h_0.on b_1)
    have HH : Aside0 (Arr .u8 26 x_1 (w.heap.size + 1) (cN h)) := Aside0.mk h_1
    have HS : Aside0 (w.heap.size + 1 + 1 ≤ x_1.heap.size) := Aside0.mk (Nat.le_of_eq s_1.symm)
    clear e_0 h_0 b_0 s_0 e_1 h_1 b_1 s_1
    obtain ⟨w1, hw_⟩ : ∃ x, x = x_1 := ⟨_, rfl⟩
    subst hw_
    clear x_0
    cases D
    · clear hg
      go_wp2_with (first | ((with_reducible refine gate_callee (f := 5) rfl ?_); refine goesL_ (some 13) rfl rfl Try.func5 (by kernel_rfl) rfl #[] rfl (by (try simp only [List.map_toArray, List.map_cons, List.map_nil]); first | done | rfl) ?_; (with_reducible refine (HUP.out _).mono ?_); rintro e u13 ⟨rfl, hb_⟩; replace HD := Aside0.mk (HD.out.on hb_); replace HH := Aside0.mk (HH.out.on hb_); replace HB := Aside0.mk (bl_on HB.out hb_ HB.out.size); clear hb_; refine ⟨_, rfl, ?_⟩) | ((with_reducible refine gate_dst (N := 15) rfl ?_); refine ld_num (HD.out.range) rfl _ rfl rfl ?_) | ((with_reducible refine gate_dst (N := 16) rfl ?_); refine ld_dig (HH.out) (HHL.out) rfl _ rfl rfl ?_) | ((with_reducible refine gate_callee (f := 6) rfl ?_); refine goesL_ (some 18) rfl rfl Try.func6 (by kernel_rfl) rfl #[numV d, digV h, .int .i64 many] rfl (by (try simp only [List.map_toArray, List.map_cons, List.map_nil]); first | done | rfl) ?_; (with_reducible refine (HLS.out _).mono ?_); rintro e u18 ⟨rfl, hb_⟩; replace HD := Aside0.mk (HD.out.on hb_); replace HH := Aside0.mk (HH.out.on hb_); replace HB := Aside0.mk (bl_on HB.out hb_ HB.out.size); clear hb_; refine ⟨_, rfl, ?_⟩) | ((with_reducible refine gate_dst (N := 21) rfl ?_); refine ld_num (HD.out.range) rfl _ rfl rfl ?_) | ((with_reducible refine gate_callee (f := 7) rfl ?_); refine goesL_ (some 22) rfl rfl Try.func7 (by kernel_rfl) rfl #[numV d] rfl (by (try simp only [List.map_toArray, List.map_cons, List.map_nil]); first | done | rfl) ?_; (with_reducible refine (HMY.out _).mono ?_); rintro e u22 ⟨rfl, hb_⟩; replace HD := Aside0.mk (HD.out.on hb_); replace HH := Aside0.mk (HH.out.on hb_); replace HB := Aside0.mk (bl_on HB.out hb_ HB.out.size); clear hb_; refine ⟨_, rfl, ?_⟩))
      go_ret
      exact ⟨rfl, HB.out⟩
    · by_cases h0 : many < 0
      · clear hg
        go_wp2_with (first | ((with_reducible refine gate_callee (f := 5) rfl ?_); refine goesL_ (some 13) rfl rfl Try.func5 (by kernel_rfl) rfl #[] rfl (by (try simp only [List.map_toArray, List.map_cons, List.map_nil]); first | done | rfl) ?_; (with_reducible refine (HUP.out _).mono ?_); rintro e u13 ⟨rfl, hb_⟩; replace HD := Aside0.mk (HD.out.on hb_); replace HH := Aside0.mk (HH.out.on hb_); replace HB := Aside0.mk (bl_on HB.out hb_ HB.out.size); clear hb_; refine ⟨_, rfl, ?_⟩) | ((with_reducible refine gate_dst (N := 15) rfl ?_); refine ld_num (HD.out.range) rfl _ rfl rfl ?_) | ((with_reducible refine gate_dst (N := 16) rfl ?_); refine ld_dig (HH.out) (HHL.out) rfl _ rfl rfl ?_) | ((with_reducible refine gate_callee (f := 6) rfl ?_); refine goesL_ (some 18) rfl rfl Try.func6 (by kernel_rfl) rfl #[numV d, digV h, .int .i64 many] rfl (by (try simp only [List.map_toArray, List.map_cons, List.map_nil]); first | done | rfl) ?_; (with_reducible refine (HLS.out _).mono ?_); rintro e u18 ⟨rfl, hb_⟩; replace HD := Aside0.mk (HD.out.on hb_); replace HH := Aside0.mk (HH.out.on hb_); replace HB := Aside0.mk (bl_on HB.out hb_ HB.out.size); clear hb_; refine ⟨_, rfl, ?_⟩) | ((with_reducible refine gate_dst (N := 21) rfl ?_); refine ld_num (HD.out.range) rfl _ rfl rfl ?_) | ((with_reducible refine gate_callee (f := 7) rfl ?_); refine goesL_ (some 22) rfl rfl Try.func7 (by kernel_rfl) rfl #[numV d] rfl (by (try simp only [List.map_toArray, List.map_cons, List.map_nil]); first | done | rfl) ?_; (with_reducible refine (HMY.out _).mono ?_); rintro e u22 ⟨rfl, hb_⟩; replace HD := Aside0.mk (HD.out.on hb_); replace HH := Aside0.mk (HH.out.on hb_); replace HB := Aside0.mk (bl_on HB.out hb_ HB.out.size); clear hb_; refine ⟨_, rfl, ?_⟩))
        go_ret
        exact ⟨rfl, HB.out⟩
      · have h1 : 16 < many := by
          by_cases h1 : many ≤ 16
          · exact absurd ⟨rfl, by omega, h1⟩ hg
          · omega
        clear hg
        go_wp2_with (first | ((with_reducible refine gate_callee (f := 5) rfl ?_); refine goesL_ (some 13) rfl rfl Try.func5 (by kernel_rfl) rfl #[] rfl (by (try simp only [List.map_toArray, List.map_cons, List.map_nil]); first | done | rfl) ?_; (with_reducible refine (HUP.out _).mono ?_); rintro e u13 ⟨rfl, hb_⟩; replace HD := Aside0.mk (HD.out.on hb_); replace HH := Aside0.mk (HH.out.on hb_); replace HB := Aside0.mk (bl_on HB.out hb_ HB.out.size); clear hb_; refine ⟨_, rfl, ?_⟩) | ((with_reducible refine gate_dst (N := 15) rfl ?_); refine ld_num (HD.out.range) rfl _ rfl rfl ?_) | ((with_reducible refine gate_dst (N := 16) rfl ?_); refine ld_dig (HH.out) (HHL.out) rfl _ rfl rfl ?_) | ((with_reducible refine gate_callee (f := 6) rfl ?_); refine goesL_ (some 18) rfl rfl Try.func6 (by kernel_rfl) rfl #[numV d, digV h, .int .i64 many] rfl (by (try simp only [List.map_toArray, List.map_cons, List.map_nil]); first | done | rfl) ?_; (with_reducible refine (HLS.out _).mono ?_); rintro e u18 ⟨rfl, hb_⟩; replace HD := Aside0.mk (HD.out.on hb_); replace HH := Aside0.mk (HH.out.on hb_); replace HB := Aside0.mk (bl_on HB.out hb_ HB.out.size); clear hb_; refine ⟨_, rfl, ?_⟩) | ((with_reducible refine gate_dst (N := 21) rfl ?_); refine ld_num (HD.out.range) rfl _ rfl rfl ?_) | ((with_reducible refine gate_callee (f := 7) rfl ?_); refine goesL_ (some 22) rfl rfl Try.func7 (by kernel_rfl) rfl #[numV d] rfl (by (try simp only [List.map_toArray, List.map_cons, List.map_nil]); first | done | rfl) ?_; (with_reducible refine (HMY.out _).mono ?_); rintro e u22 ⟨rfl, hb_⟩; replace HD := Aside0.mk (HD.out.on hb_); replace HH := Aside0.mk (HH.out.on hb_); replace HB := Aside0.mk (bl_on HB.out hb_ HB.out.size); clear hb_; refine ⟨_, rfl, ?_⟩))
        go_ret
        exact ⟨rfl, HB.out⟩
end Go.Proofs.Ytojlhmmmiebbmaa.PNonceLists
