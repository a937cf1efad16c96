/- What the proof of NonceLists is made of, part 39. -/
import Derived.Test.YtojlhmmmiebbmaaZNonceLists38
namespace Go.Proofs.Ytojlhmmmiebbmaa.PNonceLists
open Go.RowKit Go.Proofs.Ytojlhmmmiebbmaa Go.Proofs.YtojlhmmmiebbmaaW.PrintWords Go.Proofs.YtojlhmmmiebbmaaW.PrintLast Go.Proofs.YtojlhmmmiebbmaaW.PrintMore Go.Proofs.Ytojlhmmmiebbmaa.Sha Go.Proofs.Ytojlhmmmiebbmaa.Arr
attribute [local go_sem] max2_int min2_int max_two min_two max_three min_three max_four min_four
set_option linter.unusedVariables false
set_option linter.unusedSimpArgs false
theorem byt_row (a : Nat) : fnB (fun j => by8 a (31 - j)) 32 = nums .u8 (cN (byt a)) := by
  unfold fnB nums byt cN
  simp
/-- the document's Bytes -/
theorem rbytes_bl {a : Nat} (ha : a < N256) (w : World) :
    Calls Try.prog 22 #[numV a] w fun e w' => ∃ g c, e = .returned (.slice (some ⟨g, 0, none⟩) 32 c) ∧ BL w' w.heap.size (.slice (some ⟨g, 0, none⟩) 32 c) (byt a) ∧ Below w.heap.size w w' :=
  (rbytes_calls2 (IsNum.mk ha) w).mono (fun e w' h => by
    obtain ⟨g, c, h1, h2, h3⟩ := h
    refine ⟨g, c, h1, ?_, h3⟩
    unfold BL
    rw [byt_len, ← byt_row]
    exact h2)
theorem C_grown {w w' : World} {b : Nat} {xs : List Int} {q : Option Nat} (hC : Kd.C (Kd.int .u8) w (some ⟨b, 0, none⟩) xs.length xs) (hg : w.grownBy w' q) (hq : q ≠ some b) : Kd.C (Kd.int .u8) w' (some ⟨b, 0, none⟩) xs.length xs := by
  have hr := reads_of .u8 hC
  refine Kd.C_of_reads (enc := Value.int .u8) (d := (0 : Int)) (h1 := fun _ => rfl) ⟨hr.1, hr.2.1, fun hp => ?_⟩
  obtain ⟨ad, e, hcc⟩ := hr.2.2 hp
  refine ⟨ad, e, fun j hj => ?_⟩
  have h2 := hcc j hj
  cases e
  have h3 := World.block_lt_of_cell? w _ h2
  rw [Addr.add_mid] at h2 h3 ⊢
  rw [← h2]
  simp only [World.cell?]
  rw [hg.block b h3 (fun e => hq e.symm)]
theorem len0_ : 0 = ([] : List Nat).length := rfl
theorem len1_ (x : Nat) : 1 = [x].length := rfl
theorem mac32_ (k x : List Nat) : 32 = (macOf k x).length := rfl
theorem meas_i {t n : Nat} (h : t < n) : n - (intOf (.int .i64 ((t : Int) + 1))).toNat < n - (intOf (.int .i64 (t : Int))).toNat := by simp [intOf]; omega
theorem rep_snoc (i x : Nat) : List.replicate i x ++ [x] = List.replicate (i + 1) x := by rw [List.replicate_succ']
theorem rep_bs (i x : Nat) (h : x < 256) : Bs (List.replicate i x) := bs_of_mem (fun y hy => by rw [List.eq_of_mem_replicate hy]; exact h)
theorem const_B (w : World) (x : Nat) (h : x < 256) : Byt (w.alloc (.cells #[.int .u8 (x : Int)] 5)) (some ⟨w.heap.size, 0, none⟩) [x] :=
  ⟨(BL.laid w [x] (show (1 : Nat) ≤ 1000 by decide)).row, bs_of_mem (fun y hy => by rw [List.mem_singleton.1 hy]; exact h), show (1 : Nat) ≤ 1000 by decide⟩
set_option maxRecDepth 100000 in
set_option maxHeartbeats 8000000 in
theorem rlist_calls (d : Nat) (h : List Nat) (many : Nat) (w : World) (hd : d < N256) (hh : h.length = 32) (hbs : Bs h) (hm : many ≤ 16) :
    Calls Try.prog 8 #[numV d, digV h, .int .i64 (many : Int)] w fun e w' => (∃ v, e = .returned v ∧ NL w' w.heap.size v (candN d (beN h % nN) many)) ∧ Below w.heap.size w w' := by
  obtain ⟨n1, hn1⟩ : ∃ n, n = nN := ⟨_, rfl⟩
  have HPN := Aside0.mk (fun u => rn_calls u)
  obtain ⟨m, hmd⟩ : ∃ m, m = beN h := ⟨_, rfl⟩
  have hmN : m < N256 := by rw [hmd]; exact beN_lt32 hbs (by rw [hh]; exact Nat.le_refl _)
  obtain ⟨q, hq⟩ : ∃ q, q = m % nN := ⟨_, rfl⟩
  have hqN : q < N256 := by rw [hq]; exact Nat.lt_trans (Nat.mod_lt _ nN_pos) nN_lt
  have HIN : Aside0 (∀ u, Calls Try.prog 20 #[numV m, numV nN] u fun e w' => e = .returned (numV q) ∧ Below u.heap.size u w') := Aside0.mk (fun u => by
    have h := rin_calls m nN u nN_lt nN_one hmN
    rw [← hq] at h
    exact h)
  have HBD := Aside0.mk (fun u => rbytes_bl hd u)
  have HBQ := Aside0.mk (fun u => rbytes_bl hqN u)
  rw [← hmd, ← hq]
  obtain ⟨R, hR⟩ : ∃ R, R = candN d q many := ⟨_, rfl⟩
  have HRR : Aside0 (runN many 100 (stB (byt d ++ byt q) 2) [] = R) := Aside0.mk hR.symm
  rw [← hR]
  have HT1 : Aside0 ((byt d ++ byt q).length = 64 ∧ Bs (byt d ++ byt q)) := Aside0.mk ⟨by rw [List.length_append, byt_length, byt_length], (byt_bs d).append (byt_bs q)⟩
  have HOF : Aside0 (∀ u g, DAt u g h → Calls Try.prog 21 #[.slice (some ⟨g, 0, none⟩) 32 32] u fun e w' => e = .returned (numV m) ∧ Below u.heap.size u w') := Aside0.mk (fun u g hA => by
    have h1 := Go.Proofs.Ytojlhmmmiebbmaa.rof_calls (cap := 32) (C_BAt (hA.row (by rw [hh]; decide)) hbs) (by rw [hh]; exact Nat.le_refl _)
    rw [hh, ← hmd] at h1
    exact h1)
  have HBY : Aside0 (∀ u g (l : List Nat), Byt u (some ⟨g, 0, none⟩) l → l.length = 32 → Calls Try.prog 21 #[.slice (some ⟨g, 0, none⟩) 32 32] u fun e w' => e = .returned (numV (beN l)) ∧ Below u.heap.size u w') := Aside0.mk (fun u g l hA hl => by
    have h1 := Go.Proofs.Ytojlhmmmiebbmaa.rof_calls (cap := 32) (C_BAt hA.c hA.b) (by rw [hl]; exact Nat.le_refl _)
    rw [hl] at h1
    exact h1)
  rw [← hn1] at HPN HIN
  have HMY := Aside0.mk hm
  have HHL := Aside0.mk hh
  clear hn1 hd hh hm hbs hmd hmN hq hqN hR
  unfold digV
  go_enter Try.func8, Try.ntmps8
  go_upto_region 1 with (fail)
  refine wp_at (w2 := (World.alloc (World.alloc w (.cells (nw d).toArray 24)) (.cells (ints .u8 (cN h)).toArray 26))) rfl ?_
  obtain ⟨x_0, e_0, h_0, b_0, s_0⟩ := new_num w d
  obtain ⟨x_1, e_1, h_1, b_1, s_1⟩ := new_dig x_0 h
  rw [e_0, e_1]
  rw [s_0] at h_1 s_1
  have HB : Aside0 (Below w.heap.size w x_1) := Aside0.mk (bl_both b_0 b_1)
  have HD : Aside0 (NAt x_1 (w.heap.size) d) := Aside0.mk (h_0.on b_1)
  have HH : Aside0 (Arr .u8 26 x_1 (w.heap.size + 1) (cN h)) := Aside0.mk h_1
  have HS : Aside0 (w.heap.size + 1 + 1 ≤ x_1.heap.size) := Aside0.mk (Nat.le_of_eq s_1.symm)
  clear e_0 h_0 b_0 s_0 e_1 h_1 b_1 s_1
  obtain ⟨w1, hw_⟩ : ∃ x, x = x_1 := ⟨_, rfl⟩
  subst hw_
  clear x_0
  have HOF := Aside0.mk (HOF.out _ _ HH.out)
  go_upto_region 2 with (first
   | ((with_reducible refine gate_callee (f := 21) rfl ?_); refine goesL_ (some 17) rfl rfl Try.func21 (by kernel_rfl) rfl #[.slice (some ⟨w.heap.size + 1, 0, none⟩) 32 32] rfl (by (try simp only [List.map_toArray, List.map_cons, List.map_nil]); first | done | rfl) ?_; (with_reducible refine (HOF.out).mono ?_); rintro e u2 ⟨rfl, hb2⟩; have HX2 := Aside0.mk hb2; clear hb2; refine ⟨_, rfl, ?_⟩)
   | ((with_reducible refine gate_callee (f := 19) rfl ?_); refine goesL_ (some 18) rfl rfl Try.func19 (by kernel_rfl) rfl #[] rfl (by (try simp only [List.map_toArray, List.map_cons, List.map_nil]); first | done | rfl) ?_; (with_reducible refine (HPN.out _).mono ?_); rintro e u3 ⟨rfl, hb3⟩; have HX3 := Aside0.mk hb3; clear hb3; refine ⟨_, rfl, ?_⟩)
   | ((with_reducible refine gate_callee (f := 20) rfl ?_); refine goesL_ (some 19) rfl rfl Try.func20 (by kernel_rfl) rfl #[numV m, numV n1] rfl (by (try simp only [List.map_toArray, List.map_cons, List.map_nil]); first | done | rfl) ?_; (with_reducible refine (HIN.out _).mono ?_); rintro e u4 ⟨rfl, hb4⟩; have HX4 := Aside0.mk hb4; clear hb4; refine ⟨_, rfl, ?_⟩)
   | ((with_reducible refine gate_dst (N := 7) rfl ?_); refine al_num rfl _ rfl rfl ?_; intro gm u5 egn hn_ hb_; have HX5 := Aside0.mk hb_; have HN5 := Aside0.mk hn_; have HG5 := Aside0.mk egn; clear hn_ hb_ egn)
   | ((with_reducible refine gate_st (y := .tmp 19) rfl ?_); (try simp only [Act.put, List.setIfInBounds_toArray, List.set_cons_zero, List.set_cons_succ]); refine st_num (HN5.out) rfl _ _ rfl rfl rfl ?_; intro u6 hn_ hb_; have HN6 := Aside0.mk hn_; have HX6 := Aside0.mk hb_; clear hn_ hb_))
  have HB4 : Aside0 (Below w.heap.size w u4) := Aside0.mk (bl_on (bl_on (bl_on HB.out HX2.out HB.out.size) HX3.out (Nat.le_trans HB.out.size HX2.out.size)) HX4.out (Nat.le_trans (Nat.le_trans HB.out.size HX2.out.size) HX3.out.size))
  have HD4 : Aside0 (NAt u4 w.heap.size d) := Aside0.mk (((HD.out.on HX2.out).on HX3.out).on HX4.out)
  have HGE : Aside0 (w.heap.size < gm) := Aside0.mk (by rw [HG5.out]; exact HD4.out.size)
  have HB6 : Aside0 (Below w.heap.size w u6) := Aside0.mk (bl_but (bl_on HB4.out HX5.out HB4.out.size) HX6.out (Nat.le_trans HB4.out.size HX5.out.size) (Nat.le_of_lt HGE.out))
  have HD6 := Aside0.mk ((HD4.out.on HX5.out).but HX6.out (by have := HGE.out; omega))
  clear HOF HX2 HX3 HX4 HX5 HX6 HN5 HB HD HH HB4 HD4 HS HIN HPN
  refine start_ (n := 6) (S := fun w' => Below u6.heap.size u6 w') (ds := []) #[false, false, false, false, false, false] (by kernel_rfl) rfl rfl ((Below.refl _ _).drew) (fun hHeld => ?_)
  refine take_ (i := 0) (N := some 20) (a' := ?_) #[true, false, false, false, false, false] rfl rfl (by kernel_rfl) (fun _ _ _ h => h) (yields_num (g := w.heap.size) (o := 0) (n := d) (by rfl) (.tmp 3) rfl rfl (fun w' hS => (HD6.out.on hS).range)) hHeld ?_ ?_
  rotate_left
  · simp only [Act.put, List.setIfInBounds_toArray, List.set_cons_zero, List.set_cons_succ, i64_w, i32_w]
    rfl
  refine take_ (i := 2) (N := some 22) (a' := ?_) #[true, false, true, false, false, false] rfl rfl (by kernel_rfl) (fun _ _ _ h => h) (yields_num (g := gm) (o := 0) (n := q) (by rfl) (.tmp 7) rfl rfl (fun w' hS => (HN6.out.on hS).range)) hHeld ?_ ?_
  rotate_left
  · simp only [Act.put, List.setIfInBounds_toArray, List.set_cons_zero, List.set_cons_succ, i64_w, i32_w]
    rfl
  refine one_ (i := 1) (N := some 21) #[true, true, true, false, false, false] rfl rfl (by kernel_rfl) (by decide) (fun K hK => ?_)
  refine goes_ Try.func22 (by kernel_rfl) rfl #[numV d] (by rfl) rfl rfl (by simp only [List.map_toArray, List.map_cons, List.map_nil]; rfl) ?_
  with_reducible refine (HBD.out _).mono ?_
  rintro e u7 ⟨g7, c7, rfl, ho7, hb7⟩
  refine ⟨_, rfl, ?_⟩
  refine hK.out _ _ (bl_on hHeld hb7 hHeld.size) (fun hHeld => ?_)
  clear hK K
  refine norm_ (a' := ?_) ?_ ?_
  rotate_left
  · show Act.put _ (some 21) _ = _
    simp only [Act.put, List.setIfInBounds_toArray, List.set_cons_zero, List.set_cons_succ, i64_w, i32_w]
    rfl
  refine one_ (i := 3) (N := some 23) #[true, true, true, true, false, false] rfl rfl (by kernel_rfl) (by decide) (fun K hK => ?_)
  refine goes_ Try.func22 (by kernel_rfl) rfl #[numV q] (by rfl) rfl rfl (by simp only [List.map_toArray, List.map_cons, List.map_nil]; rfl) ?_
  with_reducible refine (HBQ.out _).mono ?_
  rintro e u8 ⟨g8, c8, rfl, ho8, hb8⟩
  refine ⟨_, rfl, ?_⟩
  refine hK.out _ _ (bl_on hHeld hb8 hHeld.size) (fun hHeld => ?_)
  clear hK K
  refine norm_ (a' := ?_) ?_ ?_
  rotate_left
  · show Act.put _ (some 23) _ = _
    simp only [Act.put, List.setIfInBounds_toArray, List.set_cons_zero, List.set_cons_succ, i64_w, i32_w]
    rfl
  refine one_ (i := 4) (N := some 24) #[true, true, true, true, true, false] rfl rfl (by kernel_rfl) (by decide) (fun K hK => ?_)
  refine sp_bytes (base := u6.drew.heap.size) (by rfl) (ho7.on hb8) ho8.row (byt_len q).symm (Nat.le_trans hb7.size hb8.size) (by rw [byt_length, byt_length]; decide) (.tmp 21) (.tmp 23) rfl rfl rfl ?_
  intro A9 m9 c9 u9 hm9_ ho9 hg9 hw9
  have HM9_ := Aside0.mk hm9_
  clear hm9_
  refine hK.out _ _ (hHeld.trans (grown_below hg9 (fun k hk => (ho7.own k hk).1) hHeld.size)) (fun hHeld => ?_)
  clear hK K
  refine norm_ (a' := ?_) ?_ ?_
  rotate_left
  · show Act.put _ (some 24) _ = _
    simp only [Act.put, List.setIfInBounds_toArray, List.set_cons_zero, List.set_cons_succ, i64_w, i32_w]
    rfl
  refine pure_ (i := 5) (N := some 8) (v := ?_) (a' := ?_) #[true, true, true, true, true, true] rfl rfl (by kernel_rfl) (fun _ _ _ h => h) (Or.inl ⟨by rfl, ?_⟩) ?_ ?_
  rotate_left
  · intro w'
    go_simp
    with_reducible rfl
  rotate_left
  · simp only [Act.put, List.setIfInBounds_toArray, List.set_cons_zero, List.set_cons_succ, i64_w, i32_w]
    rfl
  refine done_ (by kernel_rfl) ?_
  have HT9 : Aside0 (BL u9 u6.heap.size (.slice A9 m9 c9) (byt d ++ byt q) ∧ m9 = 64) := Aside0.mk ⟨ho9, by rw [HM9_.out, HT1.out.1]⟩
  have HB9 : Aside0 (Below w.heap.size w u9) := Aside0.mk (bl_on HB6.out hHeld HB6.out.size)
  clear ho7 hb7 ho8 hb8 HM9_ ho9 hg9 hw9 hHeld HD6 HN6 HBD HBQ HB6 HGE HG5
  generalize byt d ++ byt q = T at *
  go_wp2
  obtain ⟨B0, hB0⟩ : ∃ B, B = u9.heap.size := ⟨_, rfl⟩
  have HB0 := Aside0.mk hB0
  clear hB0
  go_loopw [9, 10, 11] (fun va vb vi wr => ∃ i : Nat, i ≤ 32 ∧ vi = .int .i64 (i : Int) ∧ Aside0 (BL wr B0 va (List.replicate i 0)) ∧ Aside0 (BL wr B0 vb (List.replicate i 1)) ∧ Aside0 (∀ k, va.ownBlock = some k → vb.ownBlock ≠ some k) ∧ Aside0 (Below B0 u9 wr))
    (fun _ _ vi _ => 32 - (intOf vi).toNat)
  case atStart => exact ⟨0, by omega, rfl, Aside0.mk (BL.nil _ _), Aside0.mk (BL.nil _ _), Aside0.mk (fun k hk => by cases hk), Aside0.mk (Below.refl _ _)⟩
  case round =>
    obtain ⟨i, hi, rfl, HA, HBB, HNE, HW⟩ := hrel
    obtain ⟨Aa, ca, rfl⟩ := HA.out.slice
    obtain ⟨Ab, cb, rfl⟩ := HBB.out.slice
    obtain ⟨Lk, hLk⟩ : ∃ L, L = (cN (List.replicate i 0)).length := ⟨_, rfl⟩
    obtain ⟨Lv, hLv⟩ : ∃ L, L = (cN (List.replicate i 1)).length := ⟨_, rfl⟩
    rw [← hLk] at HA HNE ⊢
    rw [← hLv] at HBB HNE ⊢
    have HLK : Aside0 (Lk = i ∧ Lv = i) := Aside0.mk ⟨by rw [hLk, cN_length, List.length_replicate], by rw [hLv, cN_length, List.length_replicate]⟩
    clear hLk hLv
    by_cases hlt : i < 32
    · have t1 : (i : Int) < 32 := by omega
      have HLT := Aside0.mk hlt
      have HZ : Aside0 (B0 ≤ wr.heap.size) := Aside0.mk (by rw [HB0.out]; exact HW.out.size)
      have HA1 := Aside0.mk (HA.out.on (below_alloc (Below.refl _ wr) (.cells #[.int .u8 0] 5)))
      have HB1 := Aside0.mk (HBB.out.on (below_alloc (Below.refl _ wr) (.cells #[.int .u8 0] 5)))
      have HS1 : Aside0 (B0 ≤ (World.alloc wr (.cells #[.int .u8 0] 5)).heap.size) := Aside0.mk (Nat.le_trans HZ.out (below_alloc (Below.refl wr.heap.size wr) _).size)
      clear hlt hi
      go_wp2_with (first
        | ((with_reducible refine gate_dst (N := 31) rfl ?_); refine ap_bytes (base := B0) (v := .slice Aa Lk ca) (l := List.replicate i 0) (y := [0]) (A := some ⟨wr.heap.size, 0, none⟩) (m := 1) (c := 1) (HA1.out) ((const_B wr 0 (by decide)).c) (rfl) (HS1.out) (by rw [List.length_replicate]; have := HLT.out; show i + 1 ≤ _; omega) rfl (.tmp 29) (.tmp 30) rfl rfl rfl ?_; intro A31 m31 c31 u31 hm_ ho_ hg_ hw_; have HM31 := Aside0.mk hm_; have HO31 := Aside0.mk ho_; have HG31 := Aside0.mk hg_; have HE31 := Aside0.mk hw_; clear hm_ ho_ hg_ hw_)
        | (have HB31 := Aside0.mk ((HB1.out.grown HG31.out (fun k hk e => HNE.out k e hk)).on (below_alloc (Below.refl _ u31) (.cells #[.int .u8 1] 5))); have HS31 : Aside0 (B0 ≤ (World.alloc u31 (.cells #[.int .u8 1] 5)).heap.size) := Aside0.mk (Nat.le_trans HS1.out (Nat.le_trans HG31.out.size (below_alloc (Below.refl u31.heap.size u31) _).size)); ((with_reducible refine gate_dst (N := 34) rfl ?_); refine ap_bytes (base := B0) (v := .slice Ab Lv cb) (l := List.replicate i 1) (y := [1]) (A := some ⟨u31.heap.size, 0, none⟩) (m := 1) (c := 1) (HB31.out) ((const_B u31 1 (by decide)).c) (rfl) (HS31.out) (by rw [List.length_replicate]; have := HLT.out; show i + 1 ≤ _; omega) rfl (.tmp 32) (.tmp 33) rfl rfl rfl ?_; intro A34 m34 c34 u34 hm_ ho_ hg_ hw_; have HM34 := Aside0.mk hm_; have HO34 := Aside0.mk ho_; have HG34 := Aside0.mk hg_; have HE34 := Aside0.mk hw_; clear hm_ ho_ hg_ hw_)))
      have HNA : Aside0 (∀ k, (Value.slice A31 m31 c31).ownBlock = some k → (Value.slice Ab Lv cb).ownBlock ≠ some k ∧ k < u31.heap.size) := Aside0.mk (fun k hk => ⟨fun e => by
        rcases HE31.out with h | ⟨b, h, hb⟩
        · rw [h] at hk
          exact HNE.out k hk e
        · rw [hk] at h
          injection h with h
          have h2 := (HB1.out.own k e).2
          omega, (HO31.out.own k hk).2⟩)
      exact ⟨⟨i + 1, HLT.out, by rw [Int.natCast_add]; rfl, Aside0.mk (by rw [← rep_snoc]; exact (HO31.out.on (below_alloc (Below.refl _ u31) (.cells #[.int .u8 1] 5))).grown HG34.out (fun k hk e => (HNA.out k hk).1 e)), Aside0.mk (by rw [← rep_snoc]; exact HO34.out), Aside0.mk (fun k hk e => by
        have h1 := HNA.out k hk
        rcases HE34.out with h | ⟨b, h, hb⟩
        · rw [e] at h
          exact h1.1 h.symm
        · rw [e] at h
          injection h with h
          have h2 := (below_alloc (Below.refl u31.heap.size u31) (.cells #[.int .u8 1] 5)).size
          omega), Aside0.mk (((((HW.out.trans ((below_alloc (Below.refl wr.heap.size wr) _).mono HZ.out)).trans (grown_below HG31.out (fun k hk => (HA1.out.own k hk).1) HS1.out)).trans ((below_alloc (Below.refl u31.heap.size u31) _).mono (Nat.le_trans HS1.out HG31.out.size))).trans (grown_below HG34.out (fun k hk => (HB31.out.own k hk).1) HS31.out)))⟩, meas_i HLT.out⟩
    · have hi' : i = 32 := by omega
      subst hi'
      obtain ⟨rfl, rfl⟩ := HLK.out
      have HWW : Aside0 (Below u9.heap.size u9 wr) := Aside0.mk (by have h := HW.out; rw [HB0.out] at h; exact h)
      have HK : Aside0 (Byt wr Aa (List.replicate 32 0)) := Aside0.mk (HA.out.byt (rep_bs _ _ (by decide)) (by rw [List.length_replicate]; decide))
      have HV : Aside0 (Byt wr Ab (List.replicate 32 1)) := Aside0.mk (HBB.out.byt (rep_bs _ _ (by decide)) (by rw [List.length_replicate]; decide))
      have HT : Aside0 (Byt wr A9 T) := Aside0.mk ((HT9.out.1.on HWW.out).byt HT1.out.2 (by rw [HT1.out.1]; decide))
      have HBR : Aside0 (Below w.heap.size w wr) := Aside0.mk (bl_on HB9.out HWW.out HB9.out.size)
      have HM9 := Aside0.mk HT9.out.2
      have HLR : Aside0 (32 = (List.replicate 32 0).length ∧ 32 = (List.replicate 32 1).length) := Aside0.mk ⟨rfl, rfl⟩
      clear hlt hi HA HBB HNE HW HWW HLK HT9 HB9 HB0
      go_upto_region 11 with (first
        | ((with_reducible refine gate_dst (N := 39) rfl ?_); refine ap_bytes (base := wr.heap.size) (v := .slice (some ⟨wr.heap.size, 0, none⟩) 1 1) (l := [0]) (y := T) (A := A9) (m := m9) (c := c9) (BL.laid wr [0] (show (1 : Nat) ≤ 1000 by decide)) ((HT.out.on (below_alloc (Below.refl _ wr) (.cells #[.int .u8 0] 5))).c) (by rw [cN_length, HT1.out.1, HM9.out]) ((below_alloc (Below.refl wr.heap.size wr) _).size) (by rw [HT1.out.1]; decide) rfl (.tmp 37) (.tmp 38) rfl rfl rfl ?_; intro A39 m39 c39 u39 hm_ ho_ hg_ hw_; have HM39 := Aside0.mk hm_; have HO39 := Aside0.mk ho_; have HG39 := Aside0.mk hg_; have HE39 := Aside0.mk hw_; clear hm_ ho_ hg_ hw_)
        | (have hB_ : Below wr.heap.size wr u39 := (below_alloc (Below.refl _ wr) (.cells #[.int .u8 0] 5)).trans (grown_below HG39.out (fun k hk => by injection hk with hk; exact Nat.le_of_eq hk) (below_alloc (Below.refl _ wr) (.cells #[.int .u8 0] 5)).size); have HB39 := Aside0.mk hB_; clear hB_; ((with_reducible refine gate_callee (f := 23) rfl ?_); refine goesL_ (some 40) rfl rfl Try.func23 (by kernel_rfl) rfl #[.slice Aa 32 ca, .slice Ab 32 cb, .slice A39 m39 c39] rfl (by (try simp only [List.map_toArray, List.map_cons, List.map_nil]); first | done | rfl) ?_; (with_reducible refine (rcode_byt (HK.out.on HB39.out) (HV.out.on HB39.out) (HO39.out.byt ((bs_of_mem (by decide)).append HT1.out.2) (by rw [List.length_append, HT1.out.1]; decide)) HLR.out.1 HLR.out.2 HM39.out).mono ?_); rintro e u40 ⟨b40, rfl, hge_, hC_, hb_⟩; have HX40 := Aside0.mk hb_; have HC40 := Aside0.mk hC_; have HG40 := Aside0.mk hge_; clear hb_ hC_ hge_; refine ⟨_, rfl, ?_⟩)))
      have HV40 := Aside0.mk ((HV.out.on HB39.out).on HX40.out)
      have HT40 := Aside0.mk ((HT.out.on HB39.out).on HX40.out)
      have HB40 : Aside0 (Below w.heap.size w u40) := Aside0.mk (bl_on (bl_on HBR.out HB39.out HBR.out.size) HX40.out (Nat.le_trans HBR.out.size HB39.out.size))
      clear HK HV HT HBR HB39 HX40 HO39 HG39 HE39 HM39 HG40
      go_upto_region 12 with (first
        | ((with_reducible refine gate_callee (f := 23) rfl ?_); refine goesL_ (some 43) rfl rfl Try.func23 (by kernel_rfl) rfl #[.slice (some ⟨b40, 0, none⟩) 32 32, .slice Ab 32 cb, .slice none 0 0] rfl (by (try simp only [List.map_toArray, List.map_cons, List.map_nil]); first | done | rfl) ?_; (with_reducible refine (rcode_byt HC40.out HV40.out (Byt.nil _) (mac32_ _ _) HLR.out.2 len0_).mono ?_); rintro e u43 ⟨b43, rfl, hge_, hC_, hb_⟩; have HX43 := Aside0.mk hb_; have HC43 := Aside0.mk hC_; have HG43 := Aside0.mk hge_; clear hb_ hC_ hge_; refine ⟨_, rfl, ?_⟩))
      have HK43 := Aside0.mk (HC40.out.on HX43.out)
      have HT43 := Aside0.mk (HT40.out.on HX43.out)
      have HB43 : Aside0 (Below w.heap.size w u43) := Aside0.mk (bl_on HB40.out HX43.out HB40.out.size)
      clear HC40 HV40 HT40 HB40 HX43 HG43
      rw [List.append_nil] at HC43
      generalize hK1 : macOf (List.replicate 32 0) (List.replicate 32 1 ++ ([0] ++ T)) = K1 at *
      generalize hV1 : macOf K1 (List.replicate 32 1) = V1 at *
      have HL1 : Aside0 (32 = K1.length ∧ 32 = V1.length) := Aside0.mk ⟨by rw [← hK1]; rfl, by rw [← hV1]; rfl⟩
      have HE1 : Aside0 (stB T 1 = (K1, V1)) := Aside0.mk (by rw [← hV1, ← hK1]; rfl)
      clear hK1 hV1
      go_upto_region 13 with (first
        | ((with_reducible refine gate_dst (N := 48) rfl ?_); refine ap_bytes (base := u43.heap.size) (v := .slice (some ⟨u43.heap.size, 0, none⟩) 1 1) (l := [1]) (y := T) (A := A9) (m := m9) (c := c9) (BL.laid u43 [1] (show (1 : Nat) ≤ 1000 by decide)) ((HT43.out.on (below_alloc (Below.refl _ u43) (.cells #[.int .u8 1] 5))).c) (by rw [cN_length, HT1.out.1, HM9.out]) ((below_alloc (Below.refl u43.heap.size u43) _).size) (by rw [HT1.out.1]; decide) rfl (.tmp 46) (.tmp 47) rfl rfl rfl ?_; intro A48 m48 c48 u48 hm_ ho_ hg_ hw_; have HM48 := Aside0.mk hm_; have HO48 := Aside0.mk ho_; have HG48 := Aside0.mk hg_; have HE48 := Aside0.mk hw_; clear hm_ ho_ hg_ hw_)
        | (have hB_ : Below u43.heap.size u43 u48 := (below_alloc (Below.refl _ u43) (.cells #[.int .u8 1] 5)).trans (grown_below HG48.out (fun k hk => by injection hk with hk; exact Nat.le_of_eq hk) (below_alloc (Below.refl _ u43) (.cells #[.int .u8 1] 5)).size); have HB48 := Aside0.mk hB_; clear hB_; ((with_reducible refine gate_callee (f := 23) rfl ?_); refine goesL_ (some 49) rfl rfl Try.func23 (by kernel_rfl) rfl #[.slice (some ⟨b40, 0, none⟩) 32 32, .slice (some ⟨b43, 0, none⟩) 32 32, .slice A48 m48 c48] rfl (by (try simp only [List.map_toArray, List.map_cons, List.map_nil]); first | done | rfl) ?_; (with_reducible refine (rcode_byt (HK43.out.on HB48.out) (HC43.out.on HB48.out) (HO48.out.byt ((bs_of_mem (by decide)).append HT1.out.2) (by rw [List.length_append, HT1.out.1]; decide)) HL1.out.1 HL1.out.2 HM48.out).mono ?_); rintro e u49 ⟨b49, rfl, hge_, hC_, hb_⟩; have HX49 := Aside0.mk hb_; have HC49 := Aside0.mk hC_; have HG49 := Aside0.mk hge_; clear hb_ hC_ hge_; refine ⟨_, rfl, ?_⟩)))
      have HV49 := Aside0.mk ((HC43.out.on HB48.out).on HX49.out)
      have HB49 : Aside0 (Below w.heap.size w u49) := Aside0.mk (bl_on (bl_on HB43.out HB48.out HB43.out.size) HX49.out (Nat.le_trans HB43.out.size HB48.out.size))
      clear HK43 HC43 HT43 HB43 HB48 HX49 HO48 HG48 HE48 HM48 HG49
      go_upto_region 14 with (first
        | ((with_reducible refine gate_callee (f := 23) rfl ?_); refine goesL_ (some 52) rfl rfl Try.func23 (by kernel_rfl) rfl #[.slice (some ⟨b49, 0, none⟩) 32 32, .slice (some ⟨b43, 0, none⟩) 32 32, .slice none 0 0] rfl (by (try simp only [List.map_toArray, List.map_cons, List.map_nil]); first | done | rfl) ?_; (with_reducible refine (rcode_byt HC49.out HV49.out (Byt.nil _) (mac32_ _ _) HL1.out.2 len0_).mono ?_); rintro e u52 ⟨b52, rfl, hge_, hC_, hb_⟩; have HX52 := Aside0.mk hb_; have HC52 := Aside0.mk hC_; have HG52 := Aside0.mk hge_; clear hb_ hC_ hge_; refine ⟨_, rfl, ?_⟩))
      have HK52 := Aside0.mk (HC49.out.on HX52.out)
      have HB52 : Aside0 (Below w.heap.size w u52) := Aside0.mk (bl_on HB49.out HX52.out HB49.out.size)
      clear HC49 HV49 HB49 HX52 HG52
      rw [List.append_nil] at HC52
      have HE2 : Aside0 (stB T 2 = (macOf K1 (V1 ++ ([1] ++ T)), macOf (macOf K1 (V1 ++ ([1] ++ T))) V1)) := Aside0.mk (by show stM (stB T 1) ([1] ++ T) = _; rw [HE1.out]; rfl)
      have HS0 : Aside0 (Byt u52 (some ⟨b49, 0, none⟩) (stB T 2).1 ∧ Byt u52 (some ⟨b52, 0, none⟩) (stB T 2).2 ∧ (stB T 2).1.length = 32 ∧ (stB T 2).2.length = 32) := Aside0.mk (by rw [HE2.out]; exact ⟨HK52.out, HC52.out, rfl, rfl⟩)
      clear HK52 HC52 HE2 HE1 HL1 HLR HT1 HM9
      generalize stB T 2 = S0 at *
      go_wp2
      obtain ⟨B1, hB1⟩ : ∃ B, B = u52.heap.size := ⟨_, rfl⟩
      have HB1 : Aside0 (B1 = u52.heap.size ∧ w.heap.size ≤ B1) := Aside0.mk ⟨hB1, by rw [hB1]; exact HB52.out.size⟩
      clear hB1
      go_loopw [9, 10, 12, 13] (fun va vb vo vi wr => ∃ (i : Nat) (s : List Nat × List Nat) (bk bv : Nat) (l : List Nat), i ≤ 100 ∧ vi = .int .i64 (i : Int) ∧ va = .slice (some ⟨bk, 0, none⟩) 32 32 ∧ vb = .slice (some ⟨bv, 0, none⟩) 32 32 ∧ Aside0 (Byt wr (some ⟨bk, 0, none⟩) s.1 ∧ Byt wr (some ⟨bv, 0, none⟩) s.2 ∧ s.1.length = 32 ∧ s.2.length = 32) ∧ Aside0 (NL wr B1 vo l) ∧ Aside0 (vo.ownBlock ≠ some bk ∧ vo.ownBlock ≠ some bv) ∧ Aside0 (runN many (100 - i) s l = R) ∧ Aside0 (l.length ≤ many) ∧ Aside0 (Below w.heap.size w wr) ∧ Aside0 (B1 ≤ wr.heap.size))
        (fun _ _ _ vi _ => 100 - (intOf vi).toNat)
      case atStart => exact ⟨0, S0, b49, b52, [], by omega, rfl, rfl, rfl, HS0, Aside0.mk (NL.nil _ _), Aside0.mk ⟨(fun e => by cases e), (fun e => by cases e)⟩, HRR, Aside0.mk (Nat.zero_le _), HB52, Aside0.mk (by rw [HB1.out.1]; exact Nat.le_refl _)⟩
      case round =>
        clear HS0 HB52 HRR
        obtain ⟨i, s, bk, bv, l, hi, rfl, rfl, rfl, HSR, HO, HNE, HRR, HL, HW, HZ⟩ := hrel
        obtain ⟨A, c, rfl, hA⟩ := HO.out.slice
        obtain ⟨L, hL⟩ : ∃ L, L = l.length := ⟨_, rfl⟩
        have HO' : Aside0 (NL wr B1 (.slice A L c) l) := Aside0.mk (by rw [hL]; exact HO.out)
        have HNE' : Aside0 ((Value.slice A L c).ownBlock ≠ some bk ∧ (Value.slice A L c).ownBlock ≠ some bv) := Aside0.mk (by rw [hL]; exact HNE.out)
        rw [← hL]
        have HLL := Aside0.mk hL
        clear HO HNE hA
        by_cases hlt : i < 100
        · have t1 : (i : Int) < 100 := by omega
          by_cases hlm : L = many
          · have t2 : ¬ ((L : Nat) : Int) < ((many : Nat) : Int) := by rw [hlm]; exact Int.lt_irrefl _
            have ER : R = l := runN_full HRR.out (by rw [← hL, hlm])
            have HER := Aside0.mk ER
            clear hlt hi hlm hL ER
            go_wp2
            go_ret
            exact ⟨⟨_, rfl, by rw [HER.out]; exact HO'.out.lower HB1.out.2⟩, HW.out⟩
          · have hl := HL.out
            have t2 : ((L : Nat) : Int) < ((many : Nat) : Int) := by omega
            have HLT : Aside0 (i < 100 ∧ L < many) := Aside0.mk ⟨hlt, by omega⟩
            have HST := Aside0.mk (runN_step HRR.out hlt (by rw [← hL]; exact hlm))
            have HNX : Aside0 (nxN s < N256) := Aside0.mk (nxN_lt s)
            have HVL : Aside0 ((macOf s.1 s.2).length = 32 ∧ nxN s = beN (macOf s.1 s.2) ∧ nxS s = (macOf s.1 (macOf s.1 s.2 ++ [0]), macOf (macOf s.1 (macOf s.1 s.2 ++ [0])) (macOf s.1 s.2))) := Aside0.mk ⟨rfl, rfl, rfl⟩
            have HMN : Aside0 (∀ u, Calls Try.prog 7 #[numV (nxN s)] u fun e w' => e = .returned (.bool (mayN (nxN s))) ∧ Below u.heap.size u w') := Aside0.mk (fun u => rmay_calls _ u HNX.out)
            have h65 := rcode_byt (c0 := 32) (c1 := 32) (c2 := 0) HSR.out.1 HSR.out.2.1 (Byt.nil wr) HSR.out.2.2.1.symm HSR.out.2.2.2.symm len0_
            rw [List.append_nil] at h65
            have H65 := Aside0.mk h65
            clear hL hlm hlt hi HRR hl h65
            generalize hV : macOf s.1 s.2 = V at *
            clear hV
            generalize nxN s = n at *
            generalize mayN n = M at *
            have HMAC : Aside0 (∀ x, (macOf s.1 x).length = 32) := Aside0.mk (fun x => rfl)
            go_upto_region 20 with (first
              | ((with_reducible refine gate_callee (f := 23) rfl ?_); refine goesL_ (some 65) rfl rfl Try.func23 (by kernel_rfl) rfl #[.slice (some ⟨bk, 0, none⟩) 32 32, .slice (some ⟨bv, 0, none⟩) 32 32, .slice none 0 0] rfl (by (try simp only [List.map_toArray, List.map_cons, List.map_nil]); first | done | rfl) ?_; (with_reducible refine (H65.out).mono ?_); rintro e u65 ⟨b65, rfl, hge_, hC_, hb_⟩; have HX65 := Aside0.mk hb_; have HC65 := Aside0.mk hC_; have HG65 := Aside0.mk hge_; clear hb_ hC_ hge_; refine ⟨_, rfl, ?_⟩)
              | (have hof_ := HBY.out _ _ _ HC65.out HVL.out.1; rw [← HVL.out.2.1] at hof_; have HOF67 := Aside0.mk hof_; clear hof_; ((with_reducible refine gate_callee (f := 21) rfl ?_); refine goesL_ (some 67) rfl rfl Try.func21 (by kernel_rfl) rfl #[.slice (some ⟨b65, 0, none⟩) 32 32] rfl (by (try simp only [List.map_toArray, List.map_cons, List.map_nil]); first | done | rfl) ?_; (with_reducible refine (HOF67.out).mono ?_); rintro e u67 ⟨rfl, hb67⟩; have HX67 := Aside0.mk hb67; clear hb67; refine ⟨_, rfl, ?_⟩))
              | ((with_reducible refine gate_dst (N := 14) rfl ?_); refine al_num rfl _ rfl rfl ?_; intro gx u70 egn hn_ hb_; have HX70 := Aside0.mk hb_; have HN70 := Aside0.mk hn_; have HG70 := Aside0.mk egn; clear hn_ hb_ egn)
              | ((with_reducible refine gate_st (y := .tmp 67) rfl ?_); (try simp only [Act.put, List.setIfInBounds_toArray, List.set_cons_zero, List.set_cons_succ]); refine st_num (HN70.out) rfl _ _ rfl rfl rfl ?_; intro u71 hn_ hb_; have HN71 := Aside0.mk hn_; have HX71 := Aside0.mk hb_; clear hn_ hb_))
            clear H65 HOF67
            have HGX : Aside0 (wr.heap.size ≤ b65 ∧ b65 < gx ∧ bk < gx ∧ wr.heap.size ≤ gx) := Aside0.mk (by
              have h1 := C_size HC65.out.c (by rw [cN_length, HVL.out.1]; decide)
              have h2 := HX67.out.size
              have h3 := HG65.out
              have h4 := C_size HSR.out.1.c (by rw [cN_length, HSR.out.2.2.1]; decide)
              have h5 := HX65.out.size
              rw [HG70.out]
              omega)
            have hX70 : Below wr.heap.size wr u70 := bl_on (bl_on HX65.out HX67.out HX65.out.size) HX70.out (Nat.le_trans HX65.out.size HX67.out.size)
            have hX71 : Below wr.heap.size wr u71 := bl_but hX70 HX71.out hX70.size HGX.out.2.2.2
            have HK71 : Aside0 (Byt u71 (some ⟨bk, 0, none⟩) s.1) := Aside0.mk (HSR.out.1.on hX71)
            have HV70 := (HC65.out.on HX67.out).on HX70.out
            have HV71 : Aside0 (Byt u71 (some ⟨b65, 0, none⟩) V) := Aside0.mk ⟨C_but1 HV70.c HX71.out (by have := HGX.out; omega), HV70.b, HV70.n⟩
            have HO71 : Aside0 (NL u71 B1 (.slice A L c) l) := Aside0.mk (HO'.out.on hX71)
            have HNE71 : Aside0 ((Value.slice A L c).ownBlock ≠ some bk ∧ (Value.slice A L c).ownBlock ≠ some b65) := Aside0.mk ⟨HNE'.out.1, fun e => by have h1 := (HO'.out.own _ e).2; have h2 := HGX.out; omega⟩
            have HW71 : Aside0 (Below w.heap.size w u71) := Aside0.mk (bl_on HW.out hX71 HW.out.size)
            have HZ71 : Aside0 (B1 ≤ u71.heap.size) := Aside0.mk (Nat.le_trans HZ.out hX71.size)
            have HLS : Aside0 (32 = s.1.length) := Aside0.mk HSR.out.2.2.1.symm
            clear hX70 hX71 HV70 HX65 HC65 HG65 HX67 HX70 HX71 HN70 HG70 HSR HO' HNE' HW HZ HGX t2
            cases M
            · go_upto_region 23 with (first | ((with_reducible refine gate_dst (N := 68) rfl ?_); refine ld_num (HN71.out.range) rfl _ rfl rfl ?_) | ((with_reducible refine gate_callee (f := 7) rfl ?_); refine goesL_ (some 69) rfl rfl Try.func7 (by kernel_rfl) rfl #[numV n] rfl (by (try simp only [List.map_toArray, List.map_cons, List.map_nil]); first | done | rfl) ?_; (with_reducible refine (HMN.out _).mono ?_); rintro e u74 ⟨rfl, hb74⟩; have HX74 := Aside0.mk hb74; clear hb74; refine ⟨_, rfl, ?_⟩))
              have HK74 := Aside0.mk (HK71.out.on HX74.out)
              have HV74 := Aside0.mk (HV71.out.on HX74.out)
              have HO74 := Aside0.mk (HO71.out.on HX74.out)
              have HW74 := Aside0.mk (bl_on HW71.out HX74.out HW71.out.size)
              have HZ74 := Aside0.mk (Nat.le_trans HZ71.out HX74.out.size)
              have HNE74 := HNE71
              have HL74 : Aside0 (l.length ≤ many) := Aside0.mk HL.out
              clear HK71 HV71 HO71 HW71 HZ71 HNE71 HN71 HX74
              go_upto_region 24 with (first
                | ((with_reducible refine gate_callee (f := 23) rfl ?_); refine goesL_ (some 78) rfl rfl Try.func23 (by kernel_rfl) rfl #[.slice (some ⟨bk, 0, none⟩) 32 32, .slice (some ⟨b65, 0, none⟩) 32 32, .slice (some ⟨u74.heap.size, 0, none⟩) 1 1] rfl (by (try simp only [List.map_toArray, List.map_cons, List.map_nil]); first | done | rfl) ?_; (with_reducible refine (rcode_byt (HK74.out.on (below_alloc (Below.refl _ u74) (.cells #[.int .u8 0] 5))) (HV74.out.on (below_alloc (Below.refl _ u74) (.cells #[.int .u8 0] 5))) (const_B u74 0 (by decide)) HLS.out HVL.out.1.symm (len1_ 0)).mono ?_); rintro e u78 ⟨b78, rfl, hge_, hC_, hb_⟩; have HX78 := Aside0.mk hb_; have HC78 := Aside0.mk hC_; have HG78 := Aside0.mk hge_; clear hb_ hC_ hge_; refine ⟨_, rfl, ?_⟩))
              have HV78 := Aside0.mk ((HV74.out.on (below_alloc (Below.refl _ u74) (.cells #[.int .u8 0] 5))).on HX78.out)
              have HO78 := Aside0.mk ((HO74.out.on (below_alloc (Below.refl _ u74) (.cells #[.int .u8 0] 5))).on HX78.out)
              have HW78 := Aside0.mk (bl_on (bl_on HW74.out (below_alloc (Below.refl _ u74) (.cells #[.int .u8 0] 5)) HW74.out.size) HX78.out (Nat.le_trans HW74.out.size (below_alloc (Below.refl _ u74) (.cells #[.int .u8 0] 5)).size))
              have HZ78 := Aside0.mk (Nat.le_trans HZ74.out (Nat.le_trans (below_alloc (Below.refl _ u74) (.cells #[.int .u8 0] 5)).size HX78.out.size))
              have HQ78 : Aside0 (u74.heap.size ≤ b78) := Aside0.mk (Nat.le_trans (below_alloc (Below.refl _ u74) (.cells #[.int .u8 0] 5)).size HG78.out)
              clear HV74 HW74 HZ74 HK74 HX78 HG78
              go_wp2_with (first
                | ((with_reducible refine gate_callee (f := 23) rfl ?_); refine goesL_ (some 81) rfl rfl Try.func23 (by kernel_rfl) rfl #[.slice (some ⟨b78, 0, none⟩) 32 32, .slice (some ⟨b65, 0, none⟩) 32 32, .slice none 0 0] rfl (by (try simp only [List.map_toArray, List.map_cons, List.map_nil]); first | done | rfl) ?_; (with_reducible refine (rcode_byt HC78.out HV78.out (Byt.nil _) (mac32_ _ _) HVL.out.1.symm len0_).mono ?_); rintro e u81 ⟨b81, rfl, hge_, hC_, hb_⟩; have HX81 := Aside0.mk hb_; have HC81 := Aside0.mk hC_; have HG81 := Aside0.mk hge_; clear hb_ hC_ hge_; refine ⟨_, rfl, ?_⟩))
              rw [List.append_nil] at HC81
              exact ⟨⟨i + 1, nxS s, b78, b81, l, HLT.out.1, by rw [Int.natCast_add]; rfl, rfl, rfl, Aside0.mk (by rw [HVL.out.2.2]; exact ⟨HC78.out.on HX81.out, HC81.out, rfl, rfl⟩), Aside0.mk (HO78.out.on HX81.out), Aside0.mk ⟨fun e => by have h1 := (HO74.out.own _ e).2; have h2 := HQ78.out; omega, fun e => by have h1 := (HO78.out.own _ e).2; have h2 := HG81.out; omega⟩, HST, HL74, Aside0.mk (bl_on HW78.out HX81.out HW78.out.size), Aside0.mk (Nat.le_trans HZ78.out HX81.out.size)⟩, meas_i HLT.out.1⟩
            · go_upto_region 23 with (first | ((with_reducible refine gate_dst (N := 68) rfl ?_); refine ld_num (HN71.out.range) rfl _ rfl rfl ?_) | ((with_reducible refine gate_callee (f := 7) rfl ?_); refine goesL_ (some 69) rfl rfl Try.func7 (by kernel_rfl) rfl #[numV n] rfl (by (try simp only [List.map_toArray, List.map_cons, List.map_nil]); first | done | rfl) ?_; (with_reducible refine (HMN.out _).mono ?_); rintro e u72 ⟨rfl, hb72⟩; have HX72 := Aside0.mk hb72; clear hb72; refine ⟨_, rfl, ?_⟩) | ((with_reducible refine gate_dst (N := 72) rfl ?_); refine ld_num ((HN71.out.on HX72.out).range) rfl _ rfl rfl ?_) | ((with_reducible refine gate_dst (N := 73) rfl ?_); refine bs_num rfl _ rfl (.tmp 72) rfl rfl ?_; intro gr u73 egr hn73 hb73; have HX73 := Aside0.mk hb73; have HN73 := Aside0.mk hn73; have HGR : Aside0 (gr = u72.heap.size) := Aside0.mk egr; clear hn73 hb73 egr) | ((with_reducible refine gate_dst (N := 74) rfl ?_); refine ap_num (n := n) (gn := gr) (v := .slice A L c) (l := l) (base := B1) ((HO71.out.on HX72.out).on HX73.out) HN73.out (Nat.le_trans HZ71.out (Nat.le_trans HX72.out.size HX73.out.size)) (by have h1 := HLT.out; have h2 := HMY.out; have h3 := HLL.out; omega) rfl _ _ rfl rfl rfl ?_; intro gl cl ml u74 ho74 hg74 hw74; have HO74 := Aside0.mk ho74; have HG74 := Aside0.mk hg74; have HE74 := Aside0.mk hw74; clear ho74 hg74 hw74))
              have HO73 : Aside0 (NL u73 B1 (.slice A L c) l) := Aside0.mk ((HO71.out.on HX72.out).on HX73.out)
              have HK73 := Aside0.mk ((HK71.out.on HX72.out).on HX73.out)
              have HV73 := Aside0.mk ((HV71.out.on HX72.out).on HX73.out)
              have HK74 : Aside0 (Byt u74 (some ⟨bk, 0, none⟩) s.1) := Aside0.mk ⟨C_grown HK73.out.c HG74.out HNE71.out.1, HK73.out.b, HK73.out.n⟩
              have HV74 : Aside0 (Byt u74 (some ⟨b65, 0, none⟩) V) := Aside0.mk ⟨C_grown HV73.out.c HG74.out HNE71.out.2, HV73.out.b, HV73.out.n⟩
              have HW73 : Aside0 (Below w.heap.size w u73) := Aside0.mk (bl_on (bl_on HW71.out HX72.out HW71.out.size) HX73.out (Nat.le_trans HW71.out.size HX72.out.size))
              have HZ73 := Aside0.mk (Nat.le_trans HZ71.out (Nat.le_trans HX72.out.size HX73.out.size))
              have HW74 := Aside0.mk (HW73.out.trans (grown_below HG74.out (fun q hq => Nat.le_trans HB1.out.2 (HO73.out.own q hq).1) HW73.out.size))
              have HZ74 := Aside0.mk (Nat.le_trans HZ73.out HG74.out.size)
              have HNE74 : Aside0 ((Value.slice (some ⟨gl, 0, none⟩) ml cl).ownBlock ≠ some bk ∧ (Value.slice (some ⟨gl, 0, none⟩) ml cl).ownBlock ≠ some b65) := Aside0.mk (by
                have h3 := C_size HK73.out.c (by rw [cN_length, ← HLS.out]; decide)
                have h4 := C_size HV73.out.c (by rw [cN_length, HVL.out.1]; decide)
                rcases HE74.out with h1 | h1
                · have h2 := HNE71.out
                  rw [h1] at h2
                  exact h2
                · exact ⟨fun e => by injection e with e; have e : gl = bk := e; omega, fun e => by injection e with e; have e : gl = b65 := e; omega⟩)
              have HL74 : Aside0 ((l ++ [n]).length ≤ many) := Aside0.mk (by have h1 := HLT.out.2; have h2 := HLL.out; rw [List.length_append]; show l.length + 1 ≤ many; omega)
              clear HK71 HV71 HO71 HW71 HZ71 HNE71 HN71 HX72 HX73 HN73 HGR HO73 HK73 HV73 HW73 HZ73 HG74 HE74
              go_upto_region 24 with (first
                | ((with_reducible refine gate_callee (f := 23) rfl ?_); refine goesL_ (some 78) rfl rfl Try.func23 (by kernel_rfl) rfl #[.slice (some ⟨bk, 0, none⟩) 32 32, .slice (some ⟨b65, 0, none⟩) 32 32, .slice (some ⟨u74.heap.size, 0, none⟩) 1 1] rfl (by (try simp only [List.map_toArray, List.map_cons, List.map_nil]); first | done | rfl) ?_; (with_reducible refine (rcode_byt (HK74.out.on (below_alloc (Below.refl _ u74) (.cells #[.int .u8 0] 5))) (HV74.out.on (below_alloc (Below.refl _ u74) (.cells #[.int .u8 0] 5))) (const_B u74 0 (by decide)) HLS.out HVL.out.1.symm (len1_ 0)).mono ?_); rintro e u78 ⟨b78, rfl, hge_, hC_, hb_⟩; have HX78 := Aside0.mk hb_; have HC78 := Aside0.mk hC_; have HG78 := Aside0.mk hge_; clear hb_ hC_ hge_; refine ⟨_, rfl, ?_⟩))
              have HV78 := Aside0.mk ((HV74.out.on (below_alloc (Below.refl _ u74) (.cells #[.int .u8 0] 5))).on HX78.out)
              have HO78 := Aside0.mk ((HO74.out.on (below_alloc (Below.refl _ u74) (.cells #[.int .u8 0] 5))).on HX78.out)
              have HW78 := Aside0.mk (bl_on (bl_on HW74.out (below_alloc (Below.refl _ u74) (.cells #[.int .u8 0] 5)) HW74.out.size) HX78.out (Nat.le_trans HW74.out.size (below_alloc (Below.refl _ u74) (.cells #[.int .u8 0] 5)).size))
              have HZ78 := Aside0.mk (Nat.le_trans HZ74.out (Nat.le_trans (below_alloc (Below.refl _ u74) (.cells #[.int .u8 0] 5)).size HX78.out.size))
              have HQ78 : Aside0 (u74.heap.size ≤ b78) := Aside0.mk (Nat.le_trans (below_alloc (Below.refl _ u74) (.cells #[.int .u8 0] 5)).size HG78.out)
              clear HV74 HW74 HZ74 HK74 HX78 HG78
              go_wp2_with (first
                | ((with_reducible refine gate_callee (f := 23) rfl ?_); refine goesL_ (some 81) rfl rfl Try.func23 (by kernel_rfl) rfl #[.slice (some ⟨b78, 0, none⟩) 32 32, .slice (some ⟨b65, 0, none⟩) 32 32, .slice none 0 0] rfl (by (try simp only [List.map_toArray, List.map_cons, List.map_nil]); first | done | rfl) ?_; (with_reducible refine (rcode_byt HC78.out HV78.out (Byt.nil _) (mac32_ _ _) HVL.out.1.symm len0_).mono ?_); rintro e u81 ⟨b81, rfl, hge_, hC_, hb_⟩; have HX81 := Aside0.mk hb_; have HC81 := Aside0.mk hC_; have HG81 := Aside0.mk hge_; clear hb_ hC_ hge_; refine ⟨_, rfl, ?_⟩))
              rw [List.append_nil] at HC81
              exact ⟨⟨i + 1, nxS s, b78, b81, l ++ [n], HLT.out.1, by rw [Int.natCast_add]; rfl, rfl, rfl, Aside0.mk (by rw [HVL.out.2.2]; exact ⟨HC78.out.on HX81.out, HC81.out, rfl, rfl⟩), Aside0.mk (HO78.out.on HX81.out), Aside0.mk ⟨fun e => by have h1 := (HO74.out.own _ e).2; have h2 := HQ78.out; omega, fun e => by have h1 := (HO78.out.own _ e).2; have h2 := HG81.out; omega⟩, HST, HL74, Aside0.mk (bl_on HW78.out HX81.out HW78.out.size), Aside0.mk (Nat.le_trans HZ78.out HX81.out.size)⟩, meas_i HLT.out.1⟩
        · have hi' : i = 100 := by omega
          subst hi'
          have ER : R = l := HRR.out.symm
          have HER := Aside0.mk ER
          clear hlt hi hL ER
          go_wp2
          go_ret
          exact ⟨⟨_, rfl, by rw [HER.out]; exact HO'.out.lower HB1.out.2⟩, HW.out⟩
end Go.Proofs.Ytojlhmmmiebbmaa.PNonceLists
namespace Go.Proofs.Ytojlhmmmiebbmaa.PNonceLists
open Go.RowKit Go.Proofs.Ytojlhmmmiebbmaa Go.Proofs.YtojlhmmmiebbmaaW.PrintWords Go.Proofs.YtojlhmmmiebbmaaW.PrintLast Go.Proofs.YtojlhmmmiebbmaaW.PrintMore Go.Proofs.Ytojlhmmmiebbmaa.Sha Go.Proofs.Ytojlhmmmiebbmaa.Arr
attribute [local go_sem] max2_int min2_int max_two min_two max_three min_three max_four min_four
set_option linter.unusedVariables false
set_option linter.unusedSimpArgs false
def samp : List Nat := [115, 97, 109, 112, 108, 101]
def kEx : Nat := 0xa6e3c57dd01abe90086538398355dd4c3b17aa873382b0f24d6129493d8aad60
theorem cand_ex : candN secN (beN (sum samp) % nN) 1 = [kEx] := by decide +kernel
theorem sum_len (x : List Nat) : (sum x).length = 32 := rfl
theorem may_sec : mayN secN = true := by decide +kernel
theorem C_const (w : World) (C : List Nat) (t : TypeId) (fr : Nat × Nat) (hl : C.length ≤ 9223372036854775807) : Kd.C (Kd.int .u8) (w.alloc (.cells (ints .u8 (cN C)).toArray t fr)) (some ⟨w.heap.size, 0, none⟩) (cN C).length (cN C) :=
  Kd.C_of_reads (enc := Value.int .u8) (d := (0 : Int)) (h1 := fun _ => rfl) ⟨rfl, by rw [cN_length]; exact hl, fun _ => ⟨_, rfl, fun j hj => marked3 w _ t fr j _ (by rw [List.getElem?_toArray, ints_get _ _ _ hj]; unfold rd; rw [Int.toNat_natCast])⟩⟩
theorem run_letter {P : Program} {ops : Array Oper} {rest : List Oper} {o : Oper} {a : Act} {w : World} {Q : Exit → Act → World → Prop} (hg : o.guard = none) (dst : Option Tmp) (hd : o.dst = dst) (v : Value) (w1 : World) (hrun : (execOp a.eval o).run P w = .ok (.value v) w1) (h : ∀ w2, w2 = w1 → wpList P ops Q rest (a.put dst v) w2) : wpList P ops Q (o :: rest) a w :=
  Go.Great.wpList_runTo hg dst hd v w1 hrun (h w1 rfl)
/-- the example's list -/
theorem list_ex (u : World) : Calls Try.prog 6 #[numV secN, .agg (ints .u8 (cN (sum samp))).toArray, .int .i64 1] u fun e w' => ∃ g c, e = .returned (.tuple #[.slice (some ⟨g, 0, none⟩) 1 c, .nilIface]) ∧ w'.rangeAt g 0 (nw kEx) ∧ Below u.heap.size u w' :=
  (list_calls secN (sum samp) 1 u secN_lt (sum_len samp) (sum_bs samp) may_sec (by decide)).mono (fun e w' h => by
    rw [cand_ex] at h
    rcases h with ⟨⟨h, _⟩, _⟩ | ⟨_, ⟨v, he, hN⟩, hb⟩
    · exact absurd h (by decide)
    · obtain ⟨A, c, rfl, _⟩ := hN.slice
      obtain ⟨g, rfl, hr⟩ := hN.range (i := 0) (x := kEx) rfl
      exact ⟨g, c, he, hr, hb⟩)
theorem kEx_lt : kEx < N256 := by decide +kernel
set_option maxRecDepth 100000 in
set_option maxHeartbeats 8000000 in
theorem up6_calls (w : World) : Calls Try.prog 5 #[] w fun e w' => e = .returned (.bool true) ∧ Below w.heap.size w w' := by
  have kc := fun (w : World) (C : Array Value) (n c : Nat) => Lib.run_convert_bytes_const (P := Try.prog) w 40 5 C n c rfl rfl
  have HSE := Aside0.mk (fun u => secret_calls u)
  have HLS := Aside0.mk (fun u => list_ex u)
  have HSU : Aside0 (∀ u A, Kd.C (Kd.int .u8) u A (cN samp).length (cN samp) → Calls Try.prog 10 #[.slice A 6 6] u fun e w' => e = .returned (.agg (ints .u8 (cN (sum samp))).toArray) ∧ Below u.heap.size u w') := Aside0.mk (fun u A hC => sum_calls A 6 samp u hC (bs_of_mem (by decide)) (by decide))
  have hk := num_lit kEx 5575783208203234656 4258059470363603186 604951544618933580 12025672574162353808 (by decide +kernel)
  have heq := fun w => eql_num kEx_lt kEx_lt w
  have HEQ : ∀ w : World, (binOp .eql 24 (numV kEx) (.agg #[.int .u64 5575783208203234656, .int .u64 4258059470363603186, .int .u64 604951544618933580, .int .u64 12025672574162353808])).run Try.prog w = .ok (.bool true) w := fun w => by
    have h := heq w
    rw [decide_eq_true rfl] at h
    rw [← h]
    exact congrArg (fun x => (binOp .eql 24 (numV kEx) x).run Try.prog w) hk
  have HGQ : ∀ (w : World) (x y : Operand), (eqGuard .eql 24 x y (numV kEx) (.agg #[.int .u64 5575783208203234656, .int .u64 4258059470363603186, .int .u64 604951544618933580, .int .u64 12025672574162353808])).run Try.prog w = .ok () w := fun w x y => by
    have h := eqg_num .eql x y kEx kEx w
    rw [← h]
    exact congrArg (fun z => (eqGuard .eql 24 x y (numV kEx) z).run Try.prog w) hk
  obtain ⟨ds, hds⟩ : ∃ ds, ds = sum samp := ⟨_, rfl⟩
  rw [← hds] at HLS HSU
  generalize secN = sn at *
  generalize kEx = kx at *
  clear hk heq hds
  go_enter Try.func5, Try.ntmps5
  go_upto_region 2 with (first
    | ((with_reducible refine gate_callee (f := 9) rfl ?_); refine goesL_ (some 4) rfl rfl Try.func9 (by kernel_rfl) rfl #[] rfl (by (try simp only [List.map_toArray, List.map_cons, List.map_nil]); first | done | rfl) ?_; (with_reducible refine (HSE.out _).mono ?_); rintro e u4 ⟨rfl, hb4⟩; have HX4 := Aside0.mk hb4; clear hb4; refine ⟨_, rfl, ?_⟩)
    | ((with_reducible refine gate_dst (N := 5) rfl ?_); refine Go.Great.wpList_runTo rfl (some 5) rfl (.slice (some ⟨u4.heap.size, 0, none⟩) 6 6) (u4.alloc (.cells #[.int .u8 115, .int .u8 97, .int .u8 109, .int .u8 112, .int .u8 108, .int .u8 101] 5)) (by simp only [Act.put, List.setIfInBounds_toArray, List.set_cons_zero, List.set_cons_succ]; go_simp) ?_)
    | ((with_reducible refine gate_dst (N := 6) rfl ?_); refine run_letter rfl (some 6) rfl (.slice (some ⟨u4.heap.size, 0, none⟩) 6 6) (u4.alloc (.cells #[.int .u8 115, .int .u8 97, .int .u8 109, .int .u8 112, .int .u8 108, .int .u8 101] 5 (6, 7))) (by simp only [Act.put, List.setIfInBounds_toArray, List.set_cons_zero, List.set_cons_succ]; go_simp) ?_; intro u6 e6; have HC6 : Aside0 (Kd.C (Kd.int .u8) u6 (some ⟨u4.heap.size, 0, none⟩) (cN samp).length (cN samp)) := Aside0.mk (by rw [e6]; exact C_const u4 samp 5 (6, 7) (by decide)); have HX6 : Aside0 (Below u4.heap.size u4 u6) := Aside0.mk (by rw [e6]; exact below_alloc (Below.refl _ _) _); clear e6)
    | ((with_reducible refine gate_callee (f := 10) rfl ?_); refine goesL_ (some 7) rfl rfl Try.func10 (by kernel_rfl) rfl #[.slice (some ⟨u4.heap.size, 0, none⟩) 6 6] rfl (by (try simp only [List.map_toArray, List.map_cons, List.map_nil]); first | done | rfl) ?_; (with_reducible refine (HSU.out _ _ HC6.out).mono ?_); rintro e u7 ⟨rfl, hb7⟩; have HX7 := Aside0.mk hb7; clear hb7; refine ⟨_, rfl, ?_⟩)
    | ((with_reducible refine gate_callee (f := 6) rfl ?_); refine goesL_ (some 8) rfl rfl Try.func6 (by kernel_rfl) rfl #[numV sn, .agg (ints .u8 (cN ds)).toArray, .int .i64 1] rfl (by (try simp only [List.map_toArray, List.map_cons, List.map_nil]); first | done | rfl) ?_; (with_reducible refine (HLS.out _).mono ?_); rintro e u8 ⟨gl, cl, rfl, hr8, hb8⟩; have HX8 := Aside0.mk hb8; have HR8 := Aside0.mk hr8; clear hb8 hr8; refine ⟨_, rfl, ?_⟩))
  have hB : Below w.heap.size w u8 := (((HX4.out.trans (HX6.out.mono HX4.out.size)).trans (HX7.out.mono (Nat.le_trans HX4.out.size HX6.out.size))).trans (HX8.out.mono (Nat.le_trans (Nat.le_trans HX4.out.size HX6.out.size) HX7.out.size)))
  have HB := Aside0.mk hB
  clear hB HX4 HX6 HX7 HX8
  go_wp2_with (first | ((with_reducible refine gate_dst (N := 21) rfl ?_); refine ld_numG (HR8.out) (by rfl) _ rfl rfl ?_))
  go_ret
  exact ⟨rfl, HB.out⟩
end Go.Proofs.Ytojlhmmmiebbmaa.PNonceLists
