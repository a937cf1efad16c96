/- (*sha.Hash).Write. -/
import Derived.Test.YtinjhmmbndonhaaHh
namespace Go.Proofs.Ytinjhmmbndonhaa.PShaSums
open Go.RowKit Go.Proofs.YtinjhmmbndonhaaW.PrintWords Go.Proofs.YtinjhmmbndonhaaW.PrintLast Go.Proofs.YtinjhmmbndonhaaW.PrintMore Go.Proofs.Ytinjhmmbndonhaa.Sha Go.Proofs.Ytinjhmmbndonhaa.Arr
attribute [local go_sem] max2_int min2_int max_two min_two max_three min_three max_four min_four
attribute [local go_sem high] u8_w
set_option linter.unusedVariables false
set_option linter.unusedSimpArgs false
section
variable {w w1 w2 : World} {g n : Nat} {s : H8} {rest : List Nat} {v : Value}
theorem HashAt.setN (h : HashAt w g s rest n v) (N : Nat) : HashAt (w.setCell ⟨g, 9, none⟩ (.int .i64 (N : Int))) g s rest N v :=
  ⟨h.row.set 9 _, own_setCell h.own (p := ⟨g, 9, none⟩) h.ne _, h.ok, h.bytes⟩
theorem HashAt.setV {v1 : Value} (hr : Row 50 w g (ints .u32 (cN s.list) ++ [v, .int .i64 (n : Int)])) (ho : w.ownsRow 0 5 1 v1 (cN rest).length (nums .u8 (cN rest))) (hk : okH s) (hb : Bs rest) : HashAt (w.setCell ⟨g, 8, none⟩ v1) g s rest n v1 :=
  ⟨hr.set 8 _, own_setCell ho (p := ⟨g, 8, none⟩) (own_ne ho hr (by decide)) _, hk, hb⟩
theorem Bs.append {a b : List Nat} (ha : Bs a) (hb : Bs b) : Bs (a ++ b) := by
  intro i
  rw [List.getD_eq_getElem?_getD]
  by_cases h : i < a.length
  · rw [List.getElem?_append_left h, ← List.getD_eq_getElem?_getD]; exact ha i
  · rw [List.getElem?_append_right (by omega), ← List.getD_eq_getElem?_getD]; exact hb _
theorem Bs.drop {a : List Nat} (ha : Bs a) (k : Nat) : Bs (a.drop k) := by
  intro i
  rw [List.getD_eq_getElem?_getD, List.getElem?_drop, ← List.getD_eq_getElem?_getD]; exact ha _
theorem Bs.take {a : List Nat} (ha : Bs a) (k : Nat) : Bs (a.take k) := by
  intro i
  rw [List.getD_eq_getElem?_getD, List.getElem?_take]
  split
  · rw [← List.getD_eq_getElem?_getD]; exact ha _
  · exact Nat.zero_lt_succ _
theorem cN_append (a b : List Nat) : cN (a ++ b) = cN a ++ cN b := by simp [cN]
theorem cN_take (a : List Nat) (k : Nat) : cN (a.take k) = (cN a).take k := by simp [cN, List.map_take]
theorem cN_drop (a : List Nat) (k : Nat) : cN (a.drop k) = (cN a).drop k := by simp [cN, List.map_drop]
theorem comp_ok (b : List Nat) (s : H8) (h : okH s) : okH (comp s b) := ⟨add2_lt _ _, add2_lt _ _, add2_lt _ _, add2_lt _ _, add2_lt _ _, add2_lt _ _, add2_lt _ _, add2_lt _ _⟩
/-- the length of the rest, as memory tells it -/
def lenAt (w : World) (g : Nat) : Nat := match w.cell? ⟨g, 8, none⟩ with | some (.slice _ n _) => n | _ => 0
theorem HashAt.len (h : HashAt w g s rest n v) : lenAt w g = rest.length := by
  obtain ⟨A, c, e, _⟩ := h.slice
  unfold lenAt
  rw [h.c8, e, cN_length]
theorem reads_of (k : IntKind) {A : Option Addr} {m : Nat} {xs : List Int} (h : Kd.C (Kd.int k) w A m xs) : ReadsInt w k A m xs := Kd.reads_of_C (d := (0 : Int)) h
end
set_option maxHeartbeats 4000000 in
set_option maxRecDepth 100000 in
theorem write_calls (A0 : Option Addr) (k0 : Nat) (xs : List Nat) (w : World) (g n : Nat) (s : H8) (rest : List Nat) (v : Value) (h : HashAt w g s rest n v) (hr : Kd.C (Kd.int .u8) w A0 (cN xs).length (cN xs)) (hx : Bs xs)
    (hf : ∀ ad, A0 = some ad → 0 < (cN xs).length → ad.block ≠ g) (hl : rest.length + xs.length ≤ 140737488355328) (hn : n + xs.length < 9223372036854775808) :
    Calls Try.prog 15 #[.pointer (some ⟨g, 0, none⟩), .slice A0 (cN xs).length k0] w fun e w' => e = .returned (.tuple #[]) ∧ ∃ v', HashAt w' g (run s (rest ++ xs)).1 (run s (rest ++ xs)).2 (n + xs.length) v' ∧ KB w w' g v.ownBlock ∧ (v'.ownBlock = v.ownBlock ∨ ∃ b, v'.ownBlock = some b ∧ w.heap.size ≤ b) := by
  have c9 := h.c9
  have f9 := h.free 9
  obtain ⟨m, hm⟩ : ∃ m, m = (cN xs).length := ⟨_, rfl⟩
  obtain ⟨N, hN⟩ : ∃ N, N = n + xs.length := ⟨_, rfl⟩
  have hmx : m = xs.length := by rw [hm, cN_length]
  have q : wrap64 ((n : Int) + (m : Int)) = (N : Int) := by unfold wrap64; omega
  rw [← hm, ← hN]
  rw [← hm] at hr hf
  have h1 := h.setN N
  have hr1 : Kd.C (Kd.int .u8) (w.setCell ⟨g, 9, none⟩ (.int .i64 (N : Int))) A0 m (cN xs) := Kd.C_keep (enc := Value.int .u8) (h1 := fun _ => rfl) (0 : Int) hr ((KeepBut.refl w g none).set_ 9 _) hf
  have hk1 : KB w (w.setCell ⟨g, 9, none⟩ (.int .i64 (N : Int))) g v.ownBlock := (KB.refl w g _).set 9 _
  have H1 := Aside0.mk h1
  have HR1 := Aside0.mk hr1
  have HK1 := Aside0.mk hk1
  have HX := Aside0.mk (And.intro hx (And.intro hl (And.intro hm hmx)))
  have HSZ := Aside0.mk h.size
  clear h h1 hr hr1 hk1 hx hf hl hn hm hN hmx
  go_enter Try.func15, Try.ntmps15
  go_upto_region 1 with (fail)
  have c8 := H1.out.c8
  clear c9 f9 q
  generalize w.setCell ⟨g, 9, none⟩ (.int .i64 (N : Int)) = w1 at *
  have hl1 : ((cN rest).length + m) * 1 ≤ 140737488355328 := by have := HX.out.2.1; have := HX.out.2.2.2; rw [cN_length]; omega
  go_wp2_with (first | ((with_reducible refine gate_dst (N := 19) rfl ?_); refine print_append_row (w0 := w1) 0 rfl (.tmp 17) (.tmp 18) 22 5 .u8 1 rfl rfl rfl (by omega) v (cN rest) (cN xs) A0 m k0 rfl rfl H1.out.own (reads_of .u8 HR1.out) (Below.refl _ _) (Nat.zero_le _) hl1 ?_; intro v1 w2 ho1 hb1 hg1 hat1; clear hb1; obtain ⟨A1, k1, ev1⟩ := own_slice ho1; obtain ⟨m1, hm1⟩ : ∃ m1, m1 = (cN rest ++ cN xs).length := ⟨_, rfl⟩; rw [← hm1] at ev1; subst ev1; have HM1 := Aside0.mk hm1; clear hm1; have r2 := H1.out.row.block (hg1.block g H1.out.size H1.out.ne); have c8' := r2.cell 8 _ rfl; have f8' := r2.free 8; have HO1 := Aside0.mk ho1; have HG1 := Aside0.mk hg1; have HAT := Aside0.mk hat1; have HR2 := Aside0.mk r2; clear ho1 hg1 hat1 r2))
  have ho1 := HO1.out
  rw [← cN_append] at ho1
  have h2 := HashAt.setV (rest := rest ++ xs) (v1 := .slice A1 m1 k1) HR2.out ho1 H1.out.ok (H1.out.bytes.append HX.out.1)
  have hk2 := (HK1.out.trans (KB.grown HG1.out) (.inl rfl)).set 8 (.slice A1 m1 k1)
  have hat2 : (Value.slice A1 m1 k1).ownBlock = v.ownBlock ∨ ∃ b, (Value.slice A1 m1 k1).ownBlock = some b ∧ w.heap.size ≤ b := by
    rcases HAT.out with e | ⟨b, e, hb⟩
    · exact .inl e
    · exact .inr ⟨b, e, Nat.le_trans HK1.out.keep.1 hb⟩
  have hln : (rest ++ xs).length ≤ 140737488355328 := by rw [List.length_append]; exact HX.out.2.1
  have H2 := Aside0.mk h2
  have HK2 := Aside0.mk hk2
  have HAT2 := Aside0.mk hat2
  have HLN := Aside0.mk hln
  clear ho1 h2 hk2 hat2 hln c8' f8' c8 hl1 H1 HR1 HK1 HR2 HO1 HG1 HAT HX HM1
  generalize w2.setCell ⟨g, 8, none⟩ (.slice A1 m1 k1) = w3 at *
  generalize Value.slice A1 m1 k1 = v1 at *
  generalize hR0 : rest ++ xs = R0 at *
  have HR0 := Aside0.mk hR0
  clear hR0
  go_loopw [] (fun wr => ∃ (s' : H8) (rest' : List Nat) (v' : Value), Aside0 (HashAt wr g s' rest' N v') ∧ Aside0 (run s R0 = run s' rest') ∧ Aside0 (KB w wr g v.ownBlock) ∧ Aside0 (v'.ownBlock = v.ownBlock ∨ ∃ b, v'.ownBlock = some b ∧ w.heap.size ≤ b) ∧ Aside0 (rest'.length ≤ 140737488355328))
    (fun wr => lenAt wr g)
  case atStart => exact ⟨s, R0, v1, H2, Aside0.mk rfl, HK2, HAT2, HLN⟩
  case round =>
    clear H2 HK2 HAT2 HLN
    obtain ⟨s', rest', v', H2, HRUN, HK2, HAT2, HLN⟩ := hrel
    obtain ⟨A, c, rfl, hle, hC⟩ := H2.out.slice
    have c8 := H2.out.c8
    have f8 := H2.out.free 8
    have HC := Aside0.mk hC
    have hG : g < wr.heap.size := H2.out.size
    have HGS := Aside0.mk hG
    clear hC hG
    obtain ⟨m', hm'⟩ : ∃ m', m' = (cN rest').length := ⟨_, rfl⟩
    have hm2 : m' = rest'.length := by rw [hm', cN_length]
    rw [← hm'] at c8 hle
    by_cases hlt : 64 ≤ m'
    · obtain ⟨b0, rfl⟩ : ∃ b0, A = some ⟨b0, 0, none⟩ := by
        rcases H2.out.own.2 with ⟨e, h0⟩ | ⟨b0, cap, cur, e, _⟩
        · omega
        · injection e with e1 e2 e3
          exact ⟨b0, e1⟩
      have t1 : (m' : Int) ≥ 64 := by omega
      have t2 : 64 ≤ c := by omega
      have t3 : (64 : Int) ≤ (c : Int) := by omega
      have t4 : (m' : Int) ≤ (c : Int) := by omega
      have htk : (rest'.take 64).length = 64 := by rw [List.length_take]; omega
      have hC1 : Kd.C (Kd.int .u8) wr (some ⟨b0, 0, none⟩) (cN (rest'.take 64)).length (cN (rest'.take 64)) := by
        rw [cN_take]
        exact Kd.C_take HC.out (by omega)
      have hT := take_calls (some ⟨b0, 0, none⟩) c (rest'.take 64) g s' [.slice (some ⟨b0, 0, none⟩) m' c, .int .i64 (N : Int)] wr hC1 htk (H2.out.bytes.take 64) H2.out.ok (by rw [hm']; exact H2.out.row)
      have HT := Aside0.mk hT
      have HM := Aside0.mk (And.intro hm' (And.intro hm2 hle))
      have HTK := Aside0.mk htk
      clear hT hm' hm2 hle htk hC1
      go_upto_region 4 with (first | ((with_reducible refine gate_callee (f := 24) rfl ?_); refine goesL_ (some 34) rfl rfl Try.func24 (by kernel_rfl) rfl #[.pointer (some ⟨g, 0, none⟩), .slice (some ⟨b0, 0, none⟩) 64 c] rfl (by (try simp only [List.map_toArray, List.map_cons, List.map_nil]); first | done | rfl) ?_; (with_reducible refine (HT.out).mono ?_); rintro e w4 ⟨rfl, hrow4, hbut4⟩; refine ⟨_, rfl, ?_⟩))
      have hm := HM.out
      have h4o := own_move H2.out.own (w1 := w4) (fun k hk => hbut4.block k (own_lt H2.out.own k hk) (fun e => H2.out.ne (by rw [hk, e])))
      have hk4 := HK2.out.trans (KB.but (row := v.ownBlock) hbut4) (.inl rfl)
      have hg4 : g < w4.heap.size := Nat.lt_of_lt_of_le HGS.out hbut4.size
      rw [← hm.1] at h4o
      have H4 : Aside0 (HashAt w4 g (comp s' (rest'.take 64)) rest' N (.slice (some ⟨b0, 0, none⟩) m' c)) := Aside0.mk ⟨hrow4, by rw [← hm.1]; exact h4o, comp_ok _ _ H2.out.ok, H2.out.bytes⟩
      have HK4 := Aside0.mk hk4
      have HG4 := Aside0.mk hg4
      have h5 := H4.out.below (w1 := w4.alloc (.cells #[] 5)) (below_alloc (Below.refl _ _) _)
      have c85 := h5.c8
      have H5 := Aside0.mk h5
      clear h5
      clear hm h4o hk4 hg4 hrow4 hbut4 c8 f8 HT
      have ho5 : (w4.alloc (.cells #[] 5)).ownsRow 0 5 1 (.slice (some ⟨w4.heap.size, 0, none⟩) 0 0) ([] : List Int).length (nums .u8 []) := own_lit w4 0 5 .u8 [] (Nat.zero_le _) (by simp)
      have HO5 := Aside0.mk ho5
      have hne5 : some g ≠ (Value.slice (some ⟨w4.heap.size, 0, none⟩) 0 0).ownBlock := by
        intro e
        injection e with e
        have e' : g = w4.heap.size := e
        have := HG4.out
        omega
      have HNE5 := Aside0.mk hne5
      have hl5 : (([] : List Int).length + (m' - 64)) * 1 ≤ 140737488355328 := by
        have h1 := HLN.out
        have h2 := HM.out.2.1
        show (0 + (m' - 64)) * 1 ≤ _
        omega
      have HL5 := Aside0.mk hl5
      have hC5 : Kd.C (Kd.int .u8) (w4.alloc (.cells #[] 5)) (some ⟨b0, 0, none⟩) (cN rest').length (cN rest') := by
        obtain ⟨A9, c9, e9, _, h9⟩ := H5.out.slice
        injection e9 with e1 e2 e3
        rw [e1]
        exact h9
      have hD0 := Kd.C_drop (m := 64) (c := c) hC5 (by have := HM.out.1; omega) (by have := HM.out.2.2; have := HM.out.1; omega)
      rw [← cN_drop] at hD0
      clear ho5 hne5 hl5
      by_cases hc64 : c = 64
      · subst hc64
        rw [if_pos rfl] at hD0
        obtain rfl : m' = 64 := by have := HM.out.2.2; omega
        have hD : ReadsInt (w4.alloc (.cells #[] 5)) .u8 (some ⟨b0, 0, none⟩) 0 (cN (rest'.drop 64)) := by
          have e : (cN (rest'.drop 64)).length = 0 := by rw [cN_length, List.length_drop, ← HM.out.2.1]
          have h := reads_of .u8 hD0
          rwa [e] at h
        have HD := Aside0.mk hD
        clear hD hD0
        go_wp2_with (first | ((with_reducible refine gate_dst (N := 42) rfl ?_); refine print_append_row (w0 := w4.alloc (.cells #[] 5)) 0 rfl (.tmp 36) (.tmp 41) 22 5 .u8 1 rfl rfl rfl (by omega) (.slice (some ⟨w4.heap.size, 0, none⟩) 0 0) [] (cN (rest'.drop 64)) (some ⟨b0, 0, none⟩) 0 0 rfl rfl HO5.out HD.out (Below.refl _ _) (Nat.zero_le _) HL5.out ?_; intro v6 w6 ho6 hb6 hg6 hat6; clear hb6; obtain ⟨A6, k6, ev6⟩ := own_slice ho6; obtain ⟨m6, hm6⟩ : ∃ m6, m6 = ([] ++ cN (rest'.drop 64)).length := ⟨_, rfl⟩; rw [← hm6] at ev6; subst ev6; have r6 := H5.out.row.block (hg6.block g H5.out.size HNE5.out); have c86 := r6.cell 8 _ rfl; have f86 := r6.free 8; have HO6 := Aside0.mk ho6; have HG6 := Aside0.mk hg6; have HAT6 := Aside0.mk hat6; have HR6 := Aside0.mk r6; clear ho6 hg6 hat6 r6 hm6))
        have H6 := Aside0.mk (HashAt.setV (rest := rest'.drop 64) HR6.out HO6.out H5.out.ok (H2.out.bytes.drop 64))
        have HK6 := Aside0.mk ((((HK4.out.trans (KB.of (row := v.ownBlock) (below_alloc (Below.refl _ _) (.cells #[] 5))) (.inl rfl)).trans (KB.grown HG6.out) (.inr ⟨w4.heap.size, rfl, HK4.out.keep.1⟩)).set 8 (.slice A6 m6 k6)))
        have HRUN6 : Aside0 (run s R0 = run (comp s' (rest'.take 64)) (rest'.drop 64)) := Aside0.mk (by rw [HRUN.out]; exact run_step s' rest' (by have := HM.out.2.1; omega))
        have HLN6 : Aside0 ((rest'.drop 64).length ≤ 140737488355328) := Aside0.mk (by rw [List.length_drop]; have := HLN.out; omega)
        have HAT7 : Aside0 ((Value.slice A6 m6 k6).ownBlock = v.ownBlock ∨ ∃ b, (Value.slice A6 m6 k6).ownBlock = some b ∧ w.heap.size ≤ b) := Aside0.mk (by
          have hk := HK4.out.keep.1
          rcases HAT6.out with e | ⟨b, e, hb⟩
          · exact .inr ⟨w4.heap.size, e, hk⟩
          · have h2 : w4.heap.size ≤ (w4.alloc (.cells #[] 5)).heap.size := by simp
            exact .inr ⟨b, e, Nat.le_trans hk (Nat.le_trans h2 hb)⟩)
        clear c86 f86 HR6 HO6 HG6 HAT6 c85
        generalize w6.setCell ⟨g, 8, none⟩ (.slice A6 m6 k6) = w7 at *
        generalize Value.slice A6 m6 k6 = v7 at *
        refine ⟨⟨comp s' (rest'.take 64), rest'.drop 64, v7, H6, HRUN6, HK6, HAT7, HLN6⟩, ?_⟩
        rw [H6.out.len, H2.out.len, List.length_drop]
        have := HM.out.2.1
        omega
      · have hc63 : (c : Int) ≠ 64 := by omega
        rw [if_neg hc64] at hD0
        have hD : ReadsInt (w4.alloc (.cells #[] 5)) .u8 (some ⟨b0, 64, none⟩) (m' - 64) (cN (rest'.drop 64)) := by
          have e : (cN (rest'.drop 64)).length = m' - 64 := by rw [cN_length, List.length_drop, ← HM.out.2.1]
          have h := reads_of .u8 hD0
          rwa [e] at h
        have HD := Aside0.mk hD
        clear hD hD0
        go_wp2_with (first | ((with_reducible refine gate_dst (N := 42) rfl ?_); refine print_append_row (w0 := w4.alloc (.cells #[] 5)) 0 rfl (.tmp 36) (.tmp 41) 22 5 .u8 1 rfl rfl rfl (by omega) (.slice (some ⟨w4.heap.size, 0, none⟩) 0 0) [] (cN (rest'.drop 64)) (some ⟨b0, 64, none⟩) (m' - 64) (c - 64) rfl rfl HO5.out HD.out (Below.refl _ _) (Nat.zero_le _) HL5.out ?_; intro v6 w6 ho6 hb6 hg6 hat6; clear hb6; obtain ⟨A6, k6, ev6⟩ := own_slice ho6; obtain ⟨m6, hm6⟩ : ∃ m6, m6 = ([] ++ cN (rest'.drop 64)).length := ⟨_, rfl⟩; rw [← hm6] at ev6; subst ev6; have r6 := H5.out.row.block (hg6.block g H5.out.size HNE5.out); have c86 := r6.cell 8 _ rfl; have f86 := r6.free 8; have HO6 := Aside0.mk ho6; have HG6 := Aside0.mk hg6; have HAT6 := Aside0.mk hat6; have HR6 := Aside0.mk r6; clear ho6 hg6 hat6 r6 hm6))
        have H6 := Aside0.mk (HashAt.setV (rest := rest'.drop 64) HR6.out HO6.out H5.out.ok (H2.out.bytes.drop 64))
        have HK6 := Aside0.mk ((((HK4.out.trans (KB.of (row := v.ownBlock) (below_alloc (Below.refl _ _) (.cells #[] 5))) (.inl rfl)).trans (KB.grown HG6.out) (.inr ⟨w4.heap.size, rfl, HK4.out.keep.1⟩)).set 8 (.slice A6 m6 k6)))
        have HRUN6 : Aside0 (run s R0 = run (comp s' (rest'.take 64)) (rest'.drop 64)) := Aside0.mk (by rw [HRUN.out]; exact run_step s' rest' (by have := HM.out.2.1; omega))
        have HLN6 : Aside0 ((rest'.drop 64).length ≤ 140737488355328) := Aside0.mk (by rw [List.length_drop]; have := HLN.out; omega)
        have HAT7 : Aside0 ((Value.slice A6 m6 k6).ownBlock = v.ownBlock ∨ ∃ b, (Value.slice A6 m6 k6).ownBlock = some b ∧ w.heap.size ≤ b) := Aside0.mk (by
          have hk := HK4.out.keep.1
          rcases HAT6.out with e | ⟨b, e, hb⟩
          · exact .inr ⟨w4.heap.size, e, hk⟩
          · have h2 : w4.heap.size ≤ (w4.alloc (.cells #[] 5)).heap.size := by simp
            exact .inr ⟨b, e, Nat.le_trans hk (Nat.le_trans h2 hb)⟩)
        clear c86 f86 HR6 HO6 HG6 HAT6 c85
        generalize w6.setCell ⟨g, 8, none⟩ (.slice A6 m6 k6) = w7 at *
        generalize Value.slice A6 m6 k6 = v7 at *
        refine ⟨⟨comp s' (rest'.take 64), rest'.drop 64, v7, H6, HRUN6, HK6, HAT7, HLN6⟩, ?_⟩
        rw [H6.out.len, H2.out.len, List.length_drop]
        have := HM.out.2.1
        omega
    · have t1 : (m' : Int) < 64 := by omega
      have hend : run s R0 = (s', rest') := by rw [HRUN.out]; exact run_end s' rest' (by omega)
      have HEND := Aside0.mk hend
      clear hend hm' hm2 hle hlt
      go_wp2
      refine bodyPost_end (results_none rfl _ _ _) rfl ⟨rfl, _, ?_, HK2.out, HAT2.out⟩
      rw [HR0.out, HEND.out]
      exact H2.out
end Go.Proofs.Ytinjhmmbndonhaa.PShaSums
