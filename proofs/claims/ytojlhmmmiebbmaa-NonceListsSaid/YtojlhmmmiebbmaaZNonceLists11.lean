/- What the proof of NonceLists is made of, part 11. -/
import Derived.Test.YtojlhmmmiebbmaaZNonceLists10
namespace Go.Proofs.Ytojlhmmmiebbmaa.PNonceLists
open Go.RowKit Go.Proofs.YtojlhmmmiebbmaaW.PrintWords Go.Proofs.YtojlhmmmiebbmaaW.PrintLast Go.Proofs.YtojlhmmmiebbmaaW.PrintMore Go.Proofs.Ytojlhmmmiebbmaa.Sha Go.Proofs.Ytojlhmmmiebbmaa.Arr
attribute [local go_sem] max2_int min2_int max_two min_two max_three min_three max_four min_four
attribute [local go_sem high] u8_w
set_option linter.unusedVariables false
set_option linter.unusedSimpArgs false
section
variable {w w1 w2 : World} {g n : Nat} {s : H8} {rest : List Nat} {v : Value}
theorem HashAt.setN (h : HashAt w g s rest n v) (N : Nat) : HashAt (w.setCell ⟨g, 9, none⟩ (.int .i64 (N : Int))) g s rest N v :=
  ⟨h.row.set 9 _, own_setCell h.own (p := ⟨g, 9, none⟩) h.ne _, h.ok, h.bytes⟩
theorem HashAt.setV {v1 : Value} (hr : Row 82 w g (ints .u32 (cN s.list) ++ [v, .int .i64 (n : Int)])) (ho : w.ownsRow 0 5 1 v1 (cN rest).length (nums .u8 (cN rest))) (hk : okH s) (hb : Bs rest) : HashAt (w.setCell ⟨g, 8, none⟩ v1) g s rest n v1 :=
  ⟨hr.set 8 _, own_setCell ho (p := ⟨g, 8, none⟩) (own_ne ho hr (by decide)) _, hk, hb⟩
theorem Bs.append {a b : List Nat} (ha : Bs a) (hb : Bs b) : Bs (a ++ b) := by
  intro i
  rw [List.getD_eq_getElem?_getD]
  by_cases h : i < a.length
  · rw [List.getElem?_append_left h, ← List.getD_eq_getElem?_getD]; exact ha i
  · rw [List.getElem?_append_right (by omega), ← List.getD_eq_getElem?_getD]; exact hb _
theorem Bs.drop {a : List Nat} (ha : Bs a) (k : Nat) : Bs (a.drop k) := by
  intro i
  rw [List.getD_eq_getElem?_getD, List.getElem?_drop, ← List.getD_eq_getElem?_getD]; exact ha _
theorem Bs.take {a : List Nat} (ha : Bs a) (k : Nat) : Bs (a.take k) := by
  intro i
  rw [List.getD_eq_getElem?_getD, List.getElem?_take]
  split
  · rw [← List.getD_eq_getElem?_getD]; exact ha _
  · exact Nat.zero_lt_succ _
theorem cN_append (a b : List Nat) : cN (a ++ b) = cN a ++ cN b := by simp [cN]
theorem cN_take (a : List Nat) (k : Nat) : cN (a.take k) = (cN a).take k := by simp [cN, List.map_take]
theorem cN_drop (a : List Nat) (k : Nat) : cN (a.drop k) = (cN a).drop k := by simp [cN, List.map_drop]
theorem comp_ok (b : List Nat) (s : H8) (h : okH s) : okH (comp s b) := ⟨add2_lt _ _, add2_lt _ _, add2_lt _ _, add2_lt _ _, add2_lt _ _, add2_lt _ _, add2_lt _ _, add2_lt _ _⟩
/-- the length of the rest, as memory tells it -/
def lenAt (w : World) (g : Nat) : Nat := match w.cell? ⟨g, 8, none⟩ with | some (.slice _ n _) => n | _ => 0
theorem HashAt.len (h : HashAt w g s rest n v) : lenAt w g = rest.length := by
  obtain ⟨A, c, e, _⟩ := h.slice
  unfold lenAt
  rw [h.c8, e, cN_length]
theorem reads_of (k : IntKind) {A : Option Addr} {m : Nat} {xs : List Int} (h : Kd.C (Kd.int k) w A m xs) : ReadsInt w k A m xs := Kd.reads_of_C (d := (0 : Int)) h
end
set_option maxHeartbeats 4000000 in
set_option maxRecDepth 100000 in
theorem write_calls (A0 : Option Addr) (k0 : Nat) (xs : List Nat) (w : World) (g n : Nat) (s : H8) (rest : List Nat) (v : Value) (h : HashAt w g s rest n v) (hr : Kd.C (Kd.int .u8) w A0 (cN xs).length (cN xs)) (hx : Bs xs)
    (hf : ∀ ad, A0 = some ad → 0 < (cN xs).length → ad.block ≠ g) (hl : rest.length + xs.length ≤ 140737488355328) (hn : n + xs.length < 9223372036854775808) :
    Calls Try.prog 25 #[.pointer (some ⟨g, 0, none⟩), .slice A0 (cN xs).length k0] w fun e w' => e = .returned (.tuple #[]) ∧ ∃ v', HashAt w' g (run s (rest ++ xs)).1 (run s (rest ++ xs)).2 (n + xs.length) v' ∧ KB w w' g v.ownBlock ∧ (v'.ownBlock = v.ownBlock ∨ ∃ b, v'.ownBlock = some b ∧ w.heap.size ≤ b) := by
  have c9 := h.c9
  have f9 := h.free 9
  obtain ⟨m, hm⟩ : ∃ m, m = (cN xs).length := ⟨_, rfl⟩
  obtain ⟨N, hN⟩ : ∃ N, N = n + xs.length := ⟨_, rfl⟩
  have hmx : m = xs.length := by rw [hm, cN_length]
  have q : wrap64 ((n : Int) + (m : Int)) = (N : Int) := by unfold wrap64; omega
  rw [← hm, ← hN]
  rw [← hm] at hr hf
  have h1 := h.setN N
  have hr1 : Kd.C (Kd.int .u8) (w.setCell ⟨g, 9, none⟩ (.int .i64 (N : Int))) A0 m (cN xs) := Kd.C_keep (enc := Value.int .u8) (h1 := fun _ => rfl) (0 : Int) hr ((KeepBut.refl w g none).set_ 9 _) hf
  have hk1 : KB w (w.setCell ⟨g, 9, none⟩ (.int .i64 (N : Int))) g v.ownBlock := (KB.refl w g _).set 9 _
  have H1 := Aside0.mk h1
  have HR1 := Aside0.mk hr1
  have HK1 := Aside0.mk hk1
  have HX := Aside0.mk (And.intro hx (And.intro hl (And.intro hm hmx)))
  have HSZ := Aside0.mk h.size
  clear h h1 hr hr1 hk1 hx hf hl hn hm hN hmx
  go_enter Try.func25, Try.ntmps25
  go_upto_region 1 with (fail)
  have c8 := H1.out.c8
  clear c9 f9 q
  generalize w.setCell ⟨g, 9, none⟩ (.int .i64 (N : Int)) = w1 at *
  have hl1 : ((cN rest).length + m) * 1 ≤ 140737488355328 := by have := HX.out.2.1; have := HX.out.2.2.2; rw [cN_length]; omega
  go_wp2_with (first | ((with_reducible refine gate_dst (N := 19) rfl ?_); refine print_append_row (w0 := w1) 0 rfl (.tmp 17) (.tmp 18) 40 5 .u8 1 rfl rfl rfl (by omega) v (cN rest) (cN xs) A0 m k0 rfl rfl H1.out.own (reads_of .u8 HR1.out) (Below.refl _ _) (Nat.zero_le _) hl1 ?_; intro v1 w2 ho1 hb1 hg1 hat1; clear hb1; obtain ⟨A1, k1, ev1⟩ := own_slice ho1; obtain ⟨m1, hm1⟩ : ∃ m1, m1 = (cN rest ++ cN xs).length := ⟨_, rfl⟩; rw [← hm1] at ev1; subst ev1; have HM1 := Aside0.mk hm1; clear hm1; have r2 := H1.out.row.block (hg1.block g H1.out.size H1.out.ne); have c8' := r2.cell 8 _ rfl; have f8' := r2.free 8; have HO1 := Aside0.mk ho1; have HG1 := Aside0.mk hg1; have HAT := Aside0.mk hat1; have HR2 := Aside0.mk r2; clear ho1 hg1 hat1 r2))
  have ho1 := HO1.out
  rw [← cN_append] at ho1
  have h2 := HashAt.setV (rest := rest ++ xs) (v1 := .slice A1 m1 k1) HR2.out ho1 H1.out.ok (H1.out.bytes.append HX.out.1)
  have hk2 := (HK1.out.trans (KB.grown HG1.out) (.inl rfl)).set 8 (.slice A1 m1 k1)
  have hat2 : (Value.slice A1 m1 k1).ownBlock = v.ownBlock ∨ ∃ b, (Value.slice A1 m1 k1).ownBlock = some b ∧ w.heap.size ≤ b := by
    rcases HAT.out with e | ⟨b, e, hb⟩
    · exact .inl e
    · exact .inr ⟨b, e, Nat.le_trans HK1.out.keep.1 hb⟩
  have hln : (rest ++ xs).length ≤ 140737488355328 := by rw [List.length_append]; exact HX.out.2.1
  have H2 := Aside0.mk h2
  have HK2 := Aside0.mk hk2
  have HAT2 := Aside0.mk hat2
  have HLN := Aside0.mk hln
  clear ho1 h2 hk2 hat2 hln c8' f8' c8 hl1 H1 HR1 HK1 HR2 HO1 HG1 HAT HX HM1
  generalize w2.setCell ⟨g, 8, none⟩ (.slice A1 m1 k1) = w3 at *
  generalize Value.slice A1 m1 k1 = v1 at *
  generalize hR0 : rest ++ xs = R0 at *
  have HR0 := Aside0.mk hR0
  clear hR0
  go_loopw [] (fun wr => ∃ (s' : H8) (rest' : List Nat) (v' : Value), Aside0 (HashAt wr g s' rest' N v') ∧ Aside0 (run s R0 = run s' rest') ∧ Aside0 (KB w wr g v.ownBlock) ∧ Aside0 (v'.ownBlock = v.ownBlock ∨ ∃ b, v'.ownBlock = some b ∧ w.heap.size ≤ b) ∧ Aside0 (rest'.length ≤ 140737488355328))
    (fun wr => lenAt wr g)
  case atStart => exact ⟨s, R0, v1, H2, Aside0.mk rfl, HK2, HAT2, HLN⟩
  case round =>
    clear H2 HK2 HAT2 HLN
    obtain ⟨s', rest', v', H2, HRUN, HK2, HAT2, HLN⟩ := hrel
    obtain ⟨A, c, rfl, hle, hC⟩ := H2.out.slice
    have c8 := H2.out.c8
    have f8 := H2.out.free 8
    have HC := Aside0.mk hC
    have hG : g < wr.heap.size := H2.out.size
    have HGS := Aside0.mk hG
    clear hC hG
    obtain ⟨m', hm'⟩ : ∃ m', m' = (cN rest').length := ⟨_, rfl⟩
    have hm2 : m' = rest'.length := by rw [hm', cN_length]
    rw [← hm'] at c8 hle
    by_cases hlt : 64 ≤ m'
    · obtain ⟨b0, rfl⟩ : ∃ b0, A = some ⟨b0, 0, none⟩ := by
        rcases H2.out.own.2 with ⟨e, h0⟩ | ⟨b0, cap, cur, e, _⟩
        · omega
        · injection e with e1 e2 e3
          exact ⟨b0, e1⟩
      have t1 : (m' : Int) ≥ 64 := by omega
      have t2 : 64 ≤ c := by omega
      have t3 : (64 : Int) ≤ (c : Int) := by omega
      have t4 : (m' : Int) ≤ (c : Int) := by omega
      have htk : (rest'.take 64).length = 64 := by rw [List.length_take]; omega
      have hC1 : Kd.C (Kd.int .u8) wr (some ⟨b0, 0, none⟩) (cN (rest'.take 64)).length (cN (rest'.take 64)) := by
        rw [cN_take]
        exact Kd.C_take HC.out (by omega)
      have hT := take_calls (some ⟨b0, 0, none⟩) c (rest'.take 64) g s' [.slice (some ⟨b0, 0, none⟩) m' c, .int .i64 (N : Int)] wr hC1 htk (H2.out.bytes.take 64) H2.out.ok (by rw [hm']; exact H2.out.row)
      have HT := Aside0.mk hT
      have HM := Aside0.mk (And.intro hm' (And.intro hm2 hle))
      have HTK := Aside0.mk htk
      clear hT hm' hm2 hle htk hC1
      go_upto_region 4 with (first | ((with_reducible refine gate_callee (f := 42) rfl ?_); refine goesL_ (some 34) rfl rfl Try.func42 (by kernel_rfl) rfl #[.pointer (some ⟨g, 0, none⟩), .slice (some ⟨b0, 0, none⟩) 64 c] rfl (by (try simp only [List.map_toArray, List.map_cons, List.map_nil]); first | done | rfl) ?_; (with_reducible refine (HT.out).mono ?_); rintro e w4 ⟨rfl, hrow4, hbut4⟩; refine ⟨_, rfl, ?_⟩))
      have hm := HM.out
      have h4o := own_move H2.out.own (w1 := w4) (fun k hk => hbut4.block k (own_lt H2.out.own k hk) (fun e => H2.out.ne (by rw [hk, e])))
      have hk4 := HK2.out.trans (KB.but (row := v.ownBlock) hbut4) (.inl rfl)
      have hg4 : g < w4.heap.size := Nat.lt_of_lt_of_le HGS.out hbut4.size
      rw [← hm.1] at h4o
      have H4 : Aside0 (HashAt w4 g (comp s' (rest'.take 64)) rest' N (.slice (some ⟨b0, 0, none⟩) m' c)) := Aside0.mk ⟨hrow4, by rw [← hm.1]; exact h4o, comp_ok _ _ H2.out.ok, H2.out.bytes⟩
      have HK4 := Aside0.mk hk4
      have HG4 := Aside0.mk hg4
      have h5 := H4.out.below (w1 := w4.alloc (.cells #[] 5)) (below_alloc (Below.refl _ _) _)
      have c85 := h5.c8
      have H5 := Aside0.mk h5
      clear h5
      clear hm h4o hk4 hg4 hrow4 hbut4 c8 f8 HT
      have ho5 : (w4.alloc (.cells #[] 5)).ownsRow 0 5 1 (.slice (some ⟨w4.heap.size, 0, none⟩) 0 0) ([] : List Int).length (nums .u8 []) := own_lit w4 0 5 .u8 [] (Nat.zero_le _) (by simp)
      have HO5 := Aside0.mk ho5
      have hne5 : some g ≠ (Value.slice (some ⟨w4.heap.size, 0, none⟩) 0 0).ownBlock := by
        intro e
        injection e with e
        have e' : g = w4.heap.size := e
        have := HG4.out
        omega
      have HNE5 := Aside0.mk hne5
      have hl5 : (([] : List Int).length + (m' - 64)) * 1 ≤ 140737488355328 := by
        have h1 := HLN.out
        have h2 := HM.out.2.1
        show (0 + (m' - 64)) * 1 ≤ _
        omega
      have HL5 := Aside0.mk hl5
      have hC5 : Kd.C (Kd.int .u8) (w4.alloc (.cells #[] 5)) (some ⟨b0, 0, none⟩) (cN rest').length (cN rest') := by
        obtain ⟨A9, c9, e9, _, h9⟩ := H5.out.slice
        injection e9 with e1 e2 e3
        rw [e1]
        exact h9
      have hD0 := Kd.C_drop (m := 64) (c := c) hC5 (by have := HM.out.1; omega) (by have := HM.out.2.2; have := HM.out.1; omega)
      rw [← cN_drop] at hD0
      clear ho5 hne5 hl5
      by_cases hc64 : c = 64
      · subst hc64
        rw [if_pos rfl] at hD0
        obtain rfl : m' = 64 := by have := HM.out.2.2; omega
        have hD : ReadsInt (w4.alloc (.cells #[] 5)) .u8 (some ⟨b0, 0, none⟩) 0 (cN (rest'.drop 64)) := by
          have e : (cN (rest'.drop 64)).length = 0 := by rw [cN_length, List.length_drop, ← HM.out.2.1]
          have h := reads_of .u8 hD0
          rwa [e] at h
        have HD := Aside0.mk hD
        clear hD hD0
        go_wp2_with (first | ((with_reducible refine gate_dst (N := 42) rfl ?_); refine print_append_row (w0 := w4.alloc (.cells #[] 5)) 0 rfl (.tmp 36) (.tmp 41) 40 5 .u8 1 rfl rfl rfl (by omega) (.slice (some ⟨w4.heap.size, 0, none⟩) 0 0) [] (cN (rest'.drop 64)) (some ⟨b0, 0, none⟩) 0 0 rfl rfl HO5.out HD.out (Below.refl _ _) (Nat.zero_le _) HL5.out ?_; intro v6 w6 ho6 hb6 hg6 hat6; clear hb6; obtain ⟨A6, k6, ev6⟩ := own_slice ho6; obtain ⟨m6, hm6⟩ : ∃ m6, m6 = ([] ++ cN (rest'.drop 64)).length := ⟨_, rfl⟩; rw [← hm6] at ev6; subst ev6; have r6 := H5.out.row.block (hg6.block g H5.out.size HNE5.out); have c86 := r6.cell 8 _ rfl; have f86 := r6.free 8; have HO6 := Aside0.mk ho6; have HG6 := Aside0.mk hg6; have HAT6 := Aside0.mk hat6; have HR6 := Aside0.mk r6; clear ho6 hg6 hat6 r6 hm6))
        have H6 := Aside0.mk (HashAt.setV (rest := rest'.drop 64) HR6.out HO6.out H5.out.ok (H2.out.bytes.drop 64))
        have HK6 := Aside0.mk ((((HK4.out.trans (KB.of (row := v.ownBlock) (below_alloc (Below.refl _ _) (.cells #[] 5))) (.inl rfl)).trans (KB.grown HG6.out) (.inr ⟨w4.heap.size, rfl, HK4.out.keep.1⟩)).set 8 (.slice A6 m6 k6)))
        have HRUN6 : Aside0 (run s R0 = run (comp s' (rest'.take 64)) (rest'.drop 64)) := Aside0.mk (by rw [HRUN.out]; exact run_step s' rest' (by have := HM.out.2.1; omega))
        have HLN6 : Aside0 ((rest'.drop 64).length ≤ 140737488355328) := Aside0.mk (by rw [List.length_drop]; have := HLN.out; omega)
        have HAT7 : Aside0 ((Value.slice A6 m6 k6).ownBlock = v.ownBlock ∨ ∃ b, (Value.slice A6 m6 k6).ownBlock = some b ∧ w.heap.size ≤ b) := Aside0.mk (by
          have hk := HK4.out.keep.1
          rcases HAT6.out with e | ⟨b, e, hb⟩
          · exact .inr ⟨w4.heap.size, e, hk⟩
          · have h2 : w4.heap.size ≤ (w4.alloc (.cells #[] 5)).heap.size := by simp
            exact .inr ⟨b, e, Nat.le_trans hk (Nat.le_trans h2 hb)⟩)
        clear c86 f86 HR6 HO6 HG6 HAT6 c85
        generalize w6.setCell ⟨g, 8, none⟩ (.slice A6 m6 k6) = w7 at *
        generalize Value.slice A6 m6 k6 = v7 at *
        refine ⟨⟨comp s' (rest'.take 64), rest'.drop 64, v7, H6, HRUN6, HK6, HAT7, HLN6⟩, ?_⟩
        rw [H6.out.len, H2.out.len, List.length_drop]
        have := HM.out.2.1
        omega
      · have hc63 : (c : Int) ≠ 64 := by omega
        rw [if_neg hc64] at hD0
        have hD : ReadsInt (w4.alloc (.cells #[] 5)) .u8 (some ⟨b0, 64, none⟩) (m' - 64) (cN (rest'.drop 64)) := by
          have e : (cN (rest'.drop 64)).length = m' - 64 := by rw [cN_length, List.length_drop, ← HM.out.2.1]
          have h := reads_of .u8 hD0
          rwa [e] at h
        have HD := Aside0.mk hD
        clear hD hD0
        go_wp2_with (first | ((with_reducible refine gate_dst (N := 42) rfl ?_); refine print_append_row (w0 := w4.alloc (.cells #[] 5)) 0 rfl (.tmp 36) (.tmp 41) 40 5 .u8 1 rfl rfl rfl (by omega) (.slice (some ⟨w4.heap.size, 0, none⟩) 0 0) [] (cN (rest'.drop 64)) (some ⟨b0, 64, none⟩) (m' - 64) (c - 64) rfl rfl HO5.out HD.out (Below.refl _ _) (Nat.zero_le _) HL5.out ?_; intro v6 w6 ho6 hb6 hg6 hat6; clear hb6; obtain ⟨A6, k6, ev6⟩ := own_slice ho6; obtain ⟨m6, hm6⟩ : ∃ m6, m6 = ([] ++ cN (rest'.drop 64)).length := ⟨_, rfl⟩; rw [← hm6] at ev6; subst ev6; have r6 := H5.out.row.block (hg6.block g H5.out.size HNE5.out); have c86 := r6.cell 8 _ rfl; have f86 := r6.free 8; have HO6 := Aside0.mk ho6; have HG6 := Aside0.mk hg6; have HAT6 := Aside0.mk hat6; have HR6 := Aside0.mk r6; clear ho6 hg6 hat6 r6 hm6))
        have H6 := Aside0.mk (HashAt.setV (rest := rest'.drop 64) HR6.out HO6.out H5.out.ok (H2.out.bytes.drop 64))
        have HK6 := Aside0.mk ((((HK4.out.trans (KB.of (row := v.ownBlock) (below_alloc (Below.refl _ _) (.cells #[] 5))) (.inl rfl)).trans (KB.grown HG6.out) (.inr ⟨w4.heap.size, rfl, HK4.out.keep.1⟩)).set 8 (.slice A6 m6 k6)))
        have HRUN6 : Aside0 (run s R0 = run (comp s' (rest'.take 64)) (rest'.drop 64)) := Aside0.mk (by rw [HRUN.out]; exact run_step s' rest' (by have := HM.out.2.1; omega))
        have HLN6 : Aside0 ((rest'.drop 64).length ≤ 140737488355328) := Aside0.mk (by rw [List.length_drop]; have := HLN.out; omega)
        have HAT7 : Aside0 ((Value.slice A6 m6 k6).ownBlock = v.ownBlock ∨ ∃ b, (Value.slice A6 m6 k6).ownBlock = some b ∧ w.heap.size ≤ b) := Aside0.mk (by
          have hk := HK4.out.keep.1
          rcases HAT6.out with e | ⟨b, e, hb⟩
          · exact .inr ⟨w4.heap.size, e, hk⟩
          · have h2 : w4.heap.size ≤ (w4.alloc (.cells #[] 5)).heap.size := by simp
            exact .inr ⟨b, e, Nat.le_trans hk (Nat.le_trans h2 hb)⟩)
        clear c86 f86 HR6 HO6 HG6 HAT6 c85
        generalize w6.setCell ⟨g, 8, none⟩ (.slice A6 m6 k6) = w7 at *
        generalize Value.slice A6 m6 k6 = v7 at *
        refine ⟨⟨comp s' (rest'.take 64), rest'.drop 64, v7, H6, HRUN6, HK6, HAT7, HLN6⟩, ?_⟩
        rw [H6.out.len, H2.out.len, List.length_drop]
        have := HM.out.2.1
        omega
    · have t1 : (m' : Int) < 64 := by omega
      have hend : run s R0 = (s', rest') := by rw [HRUN.out]; exact run_end s' rest' (by omega)
      have HEND := Aside0.mk hend
      clear hend hm' hm2 hle hlt
      go_wp2
      refine bodyPost_end (results_none rfl _ _ _) rfl ⟨rfl, _, ?_, HK2.out, HAT2.out⟩
      rw [HR0.out, HEND.out]
      exact H2.out
end Go.Proofs.Ytojlhmmmiebbmaa.PNonceLists
namespace Go.Proofs.Ytojlhmmmiebbmaa.PNonceLists
open Go.RowKit Go.Proofs.YtojlhmmmiebbmaaW.PrintWords Go.Proofs.YtojlhmmmiebbmaaW.PrintLast Go.Proofs.YtojlhmmmiebbmaaW.PrintMore Go.Proofs.Ytojlhmmmiebbmaa.Sha Go.Proofs.Ytojlhmmmiebbmaa.Arr
attribute [local go_sem] max2_int min2_int max_two min_two max_three min_three max_four min_four
attribute [local go_sem high] u8_w
set_option linter.unusedVariables false
set_option linter.unusedSimpArgs false
theorem HashAt.drew {w : World} {g n : Nat} {s : H8} {rest : List Nat} {v : Value} (h : HashAt w g s rest n v) : HashAt w.drew g s rest n v := h.below (Below.refl _ _).drew
set_option maxHeartbeats 4000000 in
set_option maxRecDepth 100000 in
theorem clone_calls (w : World) (g n : Nat) (s : H8) (rest : List Nat) (v : Value) (h : HashAt w g s rest n v) (hl : rest.length ≤ 140737488355328) :
    Calls Try.prog 43 #[.pointer (some ⟨g, 0, none⟩)] w fun e w' => ∃ g', e = .returned (.pointer (some ⟨g', 0, none⟩)) ∧ w.heap.size ≤ g' ∧ ∃ v', HashAt w' g' s rest n v' ∧ (∀ k, v'.ownBlock = some k → w.heap.size ≤ k) ∧ Below w.heap.size w w' := by
  obtain ⟨A, c, e, hle, hC⟩ := h.slice
  obtain ⟨m, hm⟩ : ∃ m, m = (cN rest).length := ⟨_, rfl⟩
  rw [← hm] at e hle hC
  subst e
  have HH := Aside0.mk h
  have HC5 := Aside0.mk (Kd.C_below hC (below_alloc (Below.refl _ _).drew (.cells #[] 5)))
  have ho5 : (w.drew.alloc (.cells #[] 5)).ownsRow 0 5 1 (.slice (some ⟨w.heap.size, 0, none⟩) 0 0) ([] : List Int).length (nums .u8 []) := own_lit w.drew 0 5 .u8 [] (Nat.zero_le _) (by simp)
  have HO5 := Aside0.mk ho5
  have hl5 : (([] : List Int).length + m) * 1 ≤ 140737488355328 := by
    rw [hm, cN_length]
    show (0 + rest.length) * 1 ≤ _
    omega
  have HL5 := Aside0.mk hl5
  have HM := Aside0.mk hm
  clear h hl hC ho5 hl5 hle hm
  go_enter Try.func43, Try.ntmps43
  go_wp2
  refine start_ (n := 17) (S := fun w' => HashAt w' g s rest n (.slice A m c) ∧ Below w.heap.size w w' ∧ w'.cell? ⟨g, 0, none⟩ = some (.int .u32 (s.a : Nat)) ∧ w'.cell? ⟨g, 1, none⟩ = some (.int .u32 (s.b : Nat)) ∧ w'.cell? ⟨g, 2, none⟩ = some (.int .u32 (s.c : Nat)) ∧ w'.cell? ⟨g, 3, none⟩ = some (.int .u32 (s.d : Nat)) ∧ w'.cell? ⟨g, 4, none⟩ = some (.int .u32 (s.e : Nat)) ∧ w'.cell? ⟨g, 5, none⟩ = some (.int .u32 (s.f : Nat)) ∧ w'.cell? ⟨g, 6, none⟩ = some (.int .u32 (s.g : Nat)) ∧ w'.cell? ⟨g, 7, none⟩ = some (.int .u32 (s.h : Nat)) ∧ w'.cell? ⟨g, 8, none⟩ = some (.slice A m c) ∧ w'.cell? ⟨g, 9, none⟩ = some (.int .i64 (n : Int))) (ds := []) #[false, false, false, false, false, false, false, false, false, false, false, false, false, false, false, false, false] (by kernel_rfl) rfl rfl ⟨HH.out.drew, (Below.refl w.heap.size w).drew, (HH.out.drew).row.cell 0 _ rfl, (HH.out.drew).row.cell 1 _ rfl, (HH.out.drew).row.cell 2 _ rfl, (HH.out.drew).row.cell 3 _ rfl, (HH.out.drew).row.cell 4 _ rfl, (HH.out.drew).row.cell 5 _ rfl, (HH.out.drew).row.cell 6 _ rfl, (HH.out.drew).row.cell 7 _ rfl, (HH.out.drew).row.cell 8 _ rfl, (HH.out.drew).row.cell 9 _ rfl⟩ (fun hHeld => ?_)
  refine pure_ (i := 0) (N := some 3) (v := ?_) (a' := ?_) #[true, false, false, false, false, false, false, false, false, false, false, false, false, false, false, false, false] rfl rfl (by kernel_rfl) (fun _ _ _ h => h) (Or.inl ⟨by rfl, ?_⟩) ?_ ?_
  rotate_left
  · intro w'
    go_simp
    with_reducible rfl
  rotate_left
  · simp only [Act.put, List.setIfInBounds_toArray, List.set_cons_zero, List.set_cons_succ, i64_w, i32_w]
    rfl
  refine pure_ (i := 1) (N := some 4) (v := ?_) (a' := ?_) #[true, true, false, false, false, false, false, false, false, false, false, false, false, false, false, false, false] rfl rfl (by kernel_rfl) (fun _ _ _ h => h) (Or.inl ⟨by rfl, ?_⟩) ?_ ?_
  rotate_left
  · intro w'
    go_simp
    with_reducible rfl
  rotate_left
  · simp only [Act.put, List.setIfInBounds_toArray, List.set_cons_zero, List.set_cons_succ, i64_w, i32_w]
    rfl
  refine pure_ (i := 2) (N := some 5) (v := ?_) (a' := ?_) #[true, true, true, false, false, false, false, false, false, false, false, false, false, false, false, false, false] rfl rfl (by kernel_rfl) (fun _ _ _ h => h) (Or.inl ⟨by rfl, ?_⟩) ?_ ?_
  rotate_left
  · intro w'
    go_simp
    with_reducible rfl
  rotate_left
  · simp only [Act.put, List.setIfInBounds_toArray, List.set_cons_zero, List.set_cons_succ, i64_w, i32_w]
    rfl
  refine pure_ (i := 5) (N := some 8) (v := ?_) (a' := ?_) #[true, true, true, false, false, true, false, false, false, false, false, false, false, false, false, false, false] rfl rfl (by kernel_rfl) (fun _ _ _ h => h) (Or.inl ⟨by rfl, ?_⟩) ?_ ?_
  rotate_left
  · intro w'
    go_simp
    with_reducible rfl
  rotate_left
  · simp only [Act.put, List.setIfInBounds_toArray, List.set_cons_zero, List.set_cons_succ, i64_w, i32_w]
    rfl
  refine pure_ (i := 6) (N := some 9) (v := ?_) (a' := ?_) #[true, true, true, false, false, true, true, false, false, false, false, false, false, false, false, false, false] rfl rfl (by kernel_rfl) (fun _ _ _ h => h) (Or.inl ⟨by rfl, ?_⟩) ?_ ?_
  rotate_left
  · intro w'
    go_simp
    with_reducible rfl
  rotate_left
  · simp only [Act.put, List.setIfInBounds_toArray, List.set_cons_zero, List.set_cons_succ, i64_w, i32_w]
    rfl
  refine pure_ (i := 7) (N := some 10) (v := ?_) (a' := ?_) #[true, true, true, false, false, true, true, true, false, false, false, false, false, false, false, false, false] rfl rfl (by kernel_rfl) (fun _ _ _ h => h) (Or.inl ⟨by rfl, ?_⟩) ?_ ?_
  rotate_left
  · intro w'
    go_simp
    with_reducible rfl
  rotate_left
  · simp only [Act.put, List.setIfInBounds_toArray, List.set_cons_zero, List.set_cons_succ, i64_w, i32_w]
    rfl
  refine pure_ (i := 10) (N := some 13) (v := ?_) (a' := ?_) #[true, true, true, false, false, true, true, true, false, false, true, false, false, false, false, false, false] rfl rfl (by kernel_rfl) (fun _ _ _ h => h) (Or.inl ⟨by rfl, ?_⟩) ?_ ?_
  rotate_left
  · intro w'
    go_simp
    with_reducible rfl
  rotate_left
  · simp only [Act.put, List.setIfInBounds_toArray, List.set_cons_zero, List.set_cons_succ, i64_w, i32_w]
    rfl
  refine pure_ (i := 11) (N := some 14) (v := ?_) (a' := ?_) #[true, true, true, false, false, true, true, true, false, false, true, true, false, false, false, false, false] rfl rfl (by kernel_rfl) (fun _ _ _ h => h) (Or.inl ⟨by rfl, ?_⟩) ?_ ?_
  rotate_left
  · intro w'
    go_simp
    with_reducible rfl
  rotate_left
  · simp only [Act.put, List.setIfInBounds_toArray, List.set_cons_zero, List.set_cons_succ, i64_w, i32_w]
    rfl
  refine pure_ (i := 12) (N := some 15) (v := ?_) (a' := ?_) #[true, true, true, false, false, true, true, true, false, false, true, true, true, false, false, false, false] rfl rfl (by kernel_rfl) (fun _ _ _ h => h) (Or.inl ⟨by rfl, ?_⟩) ?_ ?_
  rotate_left
  · intro w'
    go_simp
    with_reducible rfl
  rotate_left
  · simp only [Act.put, List.setIfInBounds_toArray, List.set_cons_zero, List.set_cons_succ, i64_w, i32_w]
    rfl
  refine take_ (i := 3) (N := some 6) (v := ?_) (a' := ?_) #[true, true, true, true, false, true, true, true, false, false, true, true, true, false, false, false, false] rfl rfl (by kernel_rfl) (fun _ _ _ h => h) (Or.inl ⟨by rfl, ?_⟩) hHeld ?_ ?_
  rotate_left
  · rintro w' ⟨s0, s1, s2, s3, s4, s5, s6, s7, s8, s9, s10, s11⟩
    go_simp
    with_reducible rfl
  rotate_left
  · simp only [Act.put, List.setIfInBounds_toArray, List.set_cons_zero, List.set_cons_succ, i64_w, i32_w]
    rfl
  refine take_ (i := 8) (N := some 11) (v := ?_) (a' := ?_) #[true, true, true, true, false, true, true, true, true, false, true, true, true, false, false, false, false] rfl rfl (by kernel_rfl) (fun _ _ _ h => h) (Or.inl ⟨by rfl, ?_⟩) hHeld ?_ ?_
  rotate_left
  · rintro w' ⟨s0, s1, s2, s3, s4, s5, s6, s7, s8, s9, s10, s11⟩
    go_simp
    with_reducible rfl
  rotate_left
  · simp only [Act.put, List.setIfInBounds_toArray, List.set_cons_zero, List.set_cons_succ, i64_w, i32_w]
    rfl
  refine take_ (i := 13) (N := some 16) (v := ?_) (a' := ?_) #[true, true, true, true, false, true, true, true, true, false, true, true, true, true, false, false, false] rfl rfl (by kernel_rfl) (fun _ _ _ h => h) (Or.inl ⟨by rfl, ?_⟩) hHeld ?_ ?_
  rotate_left
  · rintro w' ⟨s0, s1, s2, s3, s4, s5, s6, s7, s8, s9, s10, s11⟩
    go_simp
    with_reducible rfl
  rotate_left
  · simp only [Act.put, List.setIfInBounds_toArray, List.set_cons_zero, List.set_cons_succ, i64_w, i32_w]
    rfl
  refine one_ (i := 4) (N := some 7) #[true, true, true, true, true, true, true, true, true, false, true, true, true, true, false, false, false] rfl rfl (by kernel_rfl) (by decide) (fun K hK => ?_)
  refine value_ (w1 := ?_) (v := ?_) (by rfl) rfl ?_ ?_
  rotate_left 2
  · go_simp
    constructor
    · rfl
    · rfl
  refine hK.out _ _ ⟨(hHeld.1.below (below_alloc (Below.refl _ _) _)), hHeld.2.1.alloc (Nat.le_refl _) _, ((hHeld.1.below (below_alloc (Below.refl _ _) _))).row.cell 0 _ rfl, ((hHeld.1.below (below_alloc (Below.refl _ _) _))).row.cell 1 _ rfl, ((hHeld.1.below (below_alloc (Below.refl _ _) _))).row.cell 2 _ rfl, ((hHeld.1.below (below_alloc (Below.refl _ _) _))).row.cell 3 _ rfl, ((hHeld.1.below (below_alloc (Below.refl _ _) _))).row.cell 4 _ rfl, ((hHeld.1.below (below_alloc (Below.refl _ _) _))).row.cell 5 _ rfl, ((hHeld.1.below (below_alloc (Below.refl _ _) _))).row.cell 6 _ rfl, ((hHeld.1.below (below_alloc (Below.refl _ _) _))).row.cell 7 _ rfl, ((hHeld.1.below (below_alloc (Below.refl _ _) _))).row.cell 8 _ rfl, ((hHeld.1.below (below_alloc (Below.refl _ _) _))).row.cell 9 _ rfl⟩ (fun hHeld => ?_)
  clear hK K
  refine norm_ (a' := ?_) ?_ ?_
  rotate_left
  · show Act.put _ (some 7) _ = _
    simp only [Act.put, List.setIfInBounds_toArray, List.set_cons_zero, List.set_cons_succ, i64_w, i32_w]
    rfl
  refine one_ (i := 9) (N := some 12) #[true, true, true, true, true, true, true, true, true, true, true, true, true, true, false, false, false] rfl rfl (by kernel_rfl) (by decide) (fun K hK => ?_)
  refine Kd.R_append_rows_step (Kd.int .u8) (w0 := w.drew.alloc (.cells #[] 5)) 0 (by rfl) (.tmp 7) (.tmp 11) 40 5 (.int .u8 0) 1 rfl rfl rfl rfl (by decide) (by omega) (.slice (some ⟨w.heap.size, 0, none⟩) 0 0) [] (cN rest) A m c (fun _ => True) (fun _ => False) rfl rfl (Kd.R_of_own HO5.out (fun _ _ => trivial)) HC5.out (fun _ _ h => h) (fun _ h => h.elim) (fun _ _ => trivial) (Below.refl _ _) (Nat.zero_le _) HL5.out ?_
  intro v6 w6 hR6 hb6 hg6 hat6
  clear hb6
  have ho6 := Kd.own_of_R hR6
  obtain ⟨A6, k6, ev6⟩ := own_slice ho6
  obtain ⟨m6, hm6⟩ : ∃ m6, m6 = ([] ++ cN rest).length := ⟨_, rfl⟩
  rw [← hm6] at ev6
  subst ev6
  have HB6 : Aside0 (Below w.heap.size w w6) := Aside0.mk (hHeld.2.1.grown hg6 (Nat.le_of_lt (by simp)) (fun k hk => by injection hk with hk; exact Nat.le_of_eq hk))
  have HH6 : Aside0 (HashAt w6 g s rest n (.slice A m c)) := Aside0.mk (HH.out.below HB6.out)
  have HO6 := Aside0.mk ho6
  have HAT6 := Aside0.mk hat6
  clear ho6 hat6 hg6 hR6 hm6
  refine hK.out _ _ ⟨HH6.out, HB6.out, (HH6.out).row.cell 0 _ rfl, (HH6.out).row.cell 1 _ rfl, (HH6.out).row.cell 2 _ rfl, (HH6.out).row.cell 3 _ rfl, (HH6.out).row.cell 4 _ rfl, (HH6.out).row.cell 5 _ rfl, (HH6.out).row.cell 6 _ rfl, (HH6.out).row.cell 7 _ rfl, (HH6.out).row.cell 8 _ rfl, (HH6.out).row.cell 9 _ rfl⟩ (fun hHeld => ?_)
  clear hK K
  refine norm_ (a' := ?_) ?_ ?_
  rotate_left
  · show Act.put _ (some 12) _ = _
    simp only [Act.put, List.setIfInBounds_toArray, List.set_cons_zero, List.set_cons_succ, i64_w, i32_w]
    rfl
  refine pure_ (i := 14) (N := some 17) (v := ?_) (a' := ?_) #[true, true, true, true, true, true, true, true, true, true, true, true, true, true, true, false, false] rfl rfl (by kernel_rfl) (fun _ _ _ h => h) (Or.inl ⟨by rfl, ?_⟩) ?_ ?_
  rotate_left
  · intro w'
    go_simp
    with_reducible rfl
  rotate_left
  · simp only [Act.put, List.setIfInBounds_toArray, List.set_cons_zero, List.set_cons_succ, i64_w, i32_w]
    rfl
  refine one_ (i := 15) (N := some 18) #[true, true, true, true, true, true, true, true, true, true, true, true, true, true, true, true, false] rfl rfl (by kernel_rfl) (by decide) (fun K hK => ?_)
  refine value_ (w1 := ?_) (v := ?_) (by rfl) rfl ?_ ?_
  rotate_left 2
  · go_simp
    constructor
    · rfl
    · rfl
  refine hK.out _ _ ⟨(hHeld.1.below (below_alloc (Below.refl _ _) _)), hHeld.2.1.alloc hHeld.2.1.size _, ((hHeld.1.below (below_alloc (Below.refl _ _) _))).row.cell 0 _ rfl, ((hHeld.1.below (below_alloc (Below.refl _ _) _))).row.cell 1 _ rfl, ((hHeld.1.below (below_alloc (Below.refl _ _) _))).row.cell 2 _ rfl, ((hHeld.1.below (below_alloc (Below.refl _ _) _))).row.cell 3 _ rfl, ((hHeld.1.below (below_alloc (Below.refl _ _) _))).row.cell 4 _ rfl, ((hHeld.1.below (below_alloc (Below.refl _ _) _))).row.cell 5 _ rfl, ((hHeld.1.below (below_alloc (Below.refl _ _) _))).row.cell 6 _ rfl, ((hHeld.1.below (below_alloc (Below.refl _ _) _))).row.cell 7 _ rfl, ((hHeld.1.below (below_alloc (Below.refl _ _) _))).row.cell 8 _ rfl, ((hHeld.1.below (below_alloc (Below.refl _ _) _))).row.cell 9 _ rfl⟩ (fun hHeld => ?_)
  clear hK K
  refine norm_ (a' := ?_) ?_ ?_
  rotate_left
  · show Act.put _ (some 18) _ = _
    simp only [Act.put, List.setIfInBounds_toArray, List.set_cons_zero, List.set_cons_succ, i64_w, i32_w]
    rfl
  refine pure_ (i := 16) (N := some 2) (v := ?_) (a' := ?_) #[true, true, true, true, true, true, true, true, true, true, true, true, true, true, true, true, true] rfl rfl (by kernel_rfl) (fun _ _ _ h => h) (Or.inl ⟨by rfl, ?_⟩) ?_ ?_
  rotate_left
  · intro w'
    go_simp
    with_reducible rfl
  rotate_left
  · simp only [Act.put, List.setIfInBounds_toArray, List.set_cons_zero, List.set_cons_succ, i64_w, i32_w]
    rfl
  refine done_ (by kernel_rfl) ?_
  clear hHeld
  have hnew : HashAt (w6.alloc (.cells (ints .u32 (cN s.list) ++ [Value.slice A6 m6 k6, Value.int .i64 (n : Int)] : List Value).toArray 82)) w6.heap.size s rest n (.slice A6 m6 k6) :=
    ⟨Row.new w6 _ _, pw_own_below HO6.out (below_alloc (Below.refl _ _) _), HH.out.ok, HH.out.bytes⟩
  have hfr : ∀ k, (Value.slice A6 m6 k6).ownBlock = some k → w.heap.size ≤ k := by
    intro k hk
    rcases HAT6.out with e | ⟨b, e, hb⟩
    · rw [e] at hk
      injection hk with hk
      exact Nat.le_of_eq hk
    · rw [e] at hk
      injection hk with hk
      subst hk
      have hb2 : w.heap.size + 1 ≤ b := by simpa using hb
      omega
  have HN := Aside0.mk hnew
  have HF := Aside0.mk hfr
  clear hnew hfr
  go_wp2
  refine bodyPost_ret (results_tmp rfl _ _ _) rfl ⟨w6.heap.size, rfl, HB6.out.size, _, HN.out, HF.out, HB6.out.alloc HB6.out.size _⟩
end Go.Proofs.Ytojlhmmmiebbmaa.PNonceLists
namespace Go.Proofs.Ytojlhmmmiebbmaa.PNonceLists
open Go.RowKit Go.Proofs.YtojlhmmmiebbmaaW.PrintWords Go.Proofs.YtojlhmmmiebbmaaW.PrintLast Go.Proofs.YtojlhmmmiebbmaaW.PrintMore Go.Proofs.Ytojlhmmmiebbmaa.Sha Go.Proofs.Ytojlhmmmiebbmaa.Arr
attribute [local go_sem] max2_int min2_int max_two min_two max_three min_three max_four min_four
attribute [local go_sem high] u8_w
set_option linter.unusedVariables false
set_option linter.unusedSimpArgs false
def z32 : List Nat := List.replicate 32 0
/-- the padding that a rest of r bytes, of n in all, asks for -/
def pad1 (j : Nat) : List Nat := 128 :: List.replicate j 0
def lenb (n t : Nat) : Nat := 8 * n / 2 ^ (56 - 8 * t) % 256
def lens (n k : Nat) : List Nat := (List.range k).map (lenb n)
def padl (r n : Nat) : List Nat := pad1 ((119 - r % 64) % 64) ++ lens n 8
theorem pad1_length (j : Nat) : (pad1 j).length = j + 1 := by simp [pad1]
theorem pad1_succ (j : Nat) : pad1 j ++ [0] = pad1 (j + 1) := by
  show 128 :: (List.replicate j 0 ++ [0]) = 128 :: List.replicate (j + 1) 0
  rw [List.replicate_succ']
theorem lens_succ (n k : Nat) : lens n k ++ [lenb n k] = lens n (k + 1) := by simp [lens, List.range_succ]
theorem lens_length (n k : Nat) : (lens n k).length = k := by simp [lens]
theorem Bs.pad1 (j : Nat) : Bs (pad1 j) := by
  intro i
  unfold PNonceLists.pad1
  rw [List.getD_eq_getElem?_getD]
  cases i with
  | zero => simp
  | succ i => rw [List.getElem?_cons_succ, List.getElem?_replicate]; split <;> simp
theorem Bs.lens (n k : Nat) : Bs (lens n k) := by
  intro i
  unfold PNonceLists.lens
  rw [List.getD_eq_getElem?_getD, List.getElem?_map]
  cases (List.range k)[i]? with
  | none => simp
  | some j => exact Nat.mod_lt _ (by omega)
theorem KB.below {w w1 : World} {g B : Nat} {row : Option Nat} (h : KB w w1 g row) (hg : B ≤ g) (hr : ∀ k, row = some k → B ≤ k) (hB : B ≤ w.heap.size) : Below B w w1 :=
  ⟨h.os, h.tape, h.output, h.keep.1, fun i hi => h.keep.2 i (by omega) (by omega) (fun e => by have := hr i e.symm; omega)⟩
theorem take_set (l : List Nat) (N i : Nat) (h : i < N) (hl : l.length = N) : (l.take i ++ List.replicate (N - i) 0).set i (l.getD i 0) = l.take (i + 1) ++ List.replicate (N - (i + 1)) 0 := by
  have h1 : (l.take i).length = i := by rw [List.length_take]; omega
  have e : N - i = (N - (i + 1)) + 1 := by omega
  rw [List.set_append_right _ _ (by omega), h1, Nat.sub_self, e, List.replicate_succ, List.set_cons_zero]
  have e2 : l.take (i + 1) = l.take i ++ [l.getD i 0] := by
    rw [List.take_add_one, List.getD_eq_getElem?_getD, List.getElem?_eq_getElem (by omega)]
    rfl
  rw [e2, List.append_assoc]
  rfl
theorem bytes_length (S : H8) : S.bytes.length = 32 := rfl
theorem bytes_get (S : H8) (i : Nat) (h : i < 32) : S.bytes.getD i 0 = S.list.getD (i / 4) 0 / 2 ^ (24 - 8 * (i % 4)) % 256 := by
  match i, h with
  | 0, _ => exact rfl
  | 1, _ => exact rfl
  | 2, _ => exact rfl
  | 3, _ => exact (congrArg (· % 256) (Nat.div_one _)).symm
  | 4, _ => exact rfl
  | 5, _ => exact rfl
  | 6, _ => exact rfl
  | 7, _ => exact (congrArg (· % 256) (Nat.div_one _)).symm
  | 8, _ => exact rfl
  | 9, _ => exact rfl
  | 10, _ => exact rfl
  | 11, _ => exact (congrArg (· % 256) (Nat.div_one _)).symm
  | 12, _ => exact rfl
  | 13, _ => exact rfl
  | 14, _ => exact rfl
  | 15, _ => exact (congrArg (· % 256) (Nat.div_one _)).symm
  | 16, _ => exact rfl
  | 17, _ => exact rfl
  | 18, _ => exact rfl
  | 19, _ => exact (congrArg (· % 256) (Nat.div_one _)).symm
  | 20, _ => exact rfl
  | 21, _ => exact rfl
  | 22, _ => exact rfl
  | 23, _ => exact (congrArg (· % 256) (Nat.div_one _)).symm
  | 24, _ => exact rfl
  | 25, _ => exact rfl
  | 26, _ => exact rfl
  | 27, _ => exact (congrArg (· % 256) (Nat.div_one _)).symm
  | 28, _ => exact rfl
  | 29, _ => exact rfl
  | 30, _ => exact rfl
  | 31, _ => exact (congrArg (· % 256) (Nat.div_one _)).symm
  | n + 32, h => omega
theorem list_lt (S : H8) (h : okH S) (i : Nat) : S.list.getD i 0 < 4294967296 := by
  obtain ⟨h0, h1, h2, h3, h4, h5, h6, h7⟩ := h
  match i with
  | 0 => exact h0
  | 1 => exact h1
  | 2 => exact h2
  | 3 => exact h3
  | 4 => exact h4
  | 5 => exact h5
  | 6 => exact h6
  | 7 => exact h7
  | n + 8 => exact Nat.zero_lt_succ _
theorem hcell {w : World} {g n : Nat} {s : H8} {rest : List Nat} {v : Value} (h : HashAt w g s rest n v) (i : Nat) (hi : i < 8) : w.cell? ⟨g, i, none⟩ = some (.int .u32 (s.list.getD i 0 : Nat)) := by
  refine h.row.cell i _ ?_
  rw [List.getElem?_append_left (by rw [ints_length]; exact hi), ints_get _ _ _ (show i < 8 from hi), rd_cN]
set_option maxHeartbeats 4000000 in
set_option maxRecDepth 100000 in
theorem hsum_calls (w : World) (g n : Nat) (s : H8) (rest : List Nat) (v : Value) (h : HashAt w g s rest n v) (hl : rest.length ≤ 1000000000000) (hn : n ≤ 1000000000000) :
    Calls Try.prog 26 #[.pointer (some ⟨g, 0, none⟩)] w fun e w' => e = .returned (.agg (ints .u8 (cN (run s (rest ++ padl rest.length n)).1.bytes)).toArray) ∧ Below w.heap.size w w' := by
  have HH := Aside0.mk h
  have HL := Aside0.mk (And.intro hl hn)
  clear h hl hn
  go_enter Try.func26, Try.ntmps26
  go_upto_region 1 with (fail)
  refine wp_at (w2 := (w.alloc (.cells (ints .u8 (cN z32)).toArray 26))) rfl ?_
  have hA0 : Arr .u8 26 (w.alloc (.cells (ints .u8 (cN z32)).toArray 26)) w.heap.size (cN z32) := Arr.new w .u8 _ _
  have hB0 : Below w.heap.size w (w.alloc (.cells (ints .u8 (cN z32)).toArray 26)) := below_alloc (Below.refl _ _) _
  have hs0 : (w.alloc (.cells (ints .u8 (cN z32)).toArray 26)).heap.size = w.heap.size + 1 := by simp
  generalize w.alloc (.cells (ints .u8 (cN z32)).toArray 26) = w1 at *
  have h1 := HH.out.below hB0
  have HCL := Aside0.mk (clone_calls w1 g n s rest v h1 (by have := HL.out.1; omega))
  have H1 := Aside0.mk h1
  have HA0 := Aside0.mk hA0
  have HB0 := Aside0.mk hB0
  have HS0 := Aside0.mk hs0
  clear h1 hA0 hB0 hs0
  go_upto_region 2 with (first | ((with_reducible refine gate_callee (f := 43) rfl ?_); refine goesL_ (some 9) rfl rfl Try.func43 (by kernel_rfl) rfl #[.pointer (some ⟨g, 0, none⟩)] rfl (by (try simp only [List.map_toArray, List.map_cons, List.map_nil]); first | done | rfl) ?_; (with_reducible refine (HCL.out).mono ?_); rintro e w2 ⟨g2, rfl, hg2, v2, hH2, hf2, hB2⟩; refine ⟨_, rfl, ?_⟩))
  have H2 := Aside0.mk hH2
  have HG2 := Aside0.mk hg2
  have HF2 := Aside0.mk hf2
  have HB2 := Aside0.mk hB2
  have HAB := Aside0.mk (HA0.out.below hB2 (by have := HS0.out; omega))
  have HHB := Aside0.mk (H1.out.below hB2)
  clear hH2 hg2 hf2 hB2 HCL
  go_upto_region 3 with (fail)
  obtain ⟨A2, c2, rfl, hle2, hC2⟩ := H2.out.slice
  obtain ⟨r, hr⟩ : ∃ r, r = (cN rest).length := ⟨_, rfl⟩
  have hrr : r = rest.length := by rw [hr, cN_length]
  have ho0 : (w2.alloc (.cells (nums .u8 (cN (pad1 0))).toArray 5)).ownsRow w2.heap.size 5 1 (.slice (some ⟨w2.heap.size, 0, none⟩) 1 1) (cN (pad1 0)).length (nums .u8 (cN (pad1 0))) := own_lit w2 w2.heap.size 5 .u8 (cN (pad1 0)) (Nat.le_refl _) (by decide)
  have hb0 : Below w2.heap.size w2 (w2.alloc (.cells (nums .u8 (cN (pad1 0))).toArray 5)) := below_alloc (Below.refl _ _) _
  have HO0 := Aside0.mk ho0
  have HP0 := Aside0.mk hb0
  have HR := Aside0.mk (And.intro hr hrr)
  refine wp_at (w2 := w2.alloc (.cells (nums .u8 (cN (pad1 0))).toArray 5)) rfl ?_
  clear ho0 hb0 hle2 hC2 hr hrr
  generalize w2.alloc (.cells (nums .u8 (cN (pad1 0))).toArray 5) = w3 at *
  go_loopw [4] (fun vv wr => ∃ j : Nat, j ≤ (119 - rest.length % 64) % 64 ∧ Aside0 (wr.ownsRow w2.heap.size 5 1 vv (cN (pad1 j)).length (nums .u8 (cN (pad1 j)))) ∧ Aside0 (Below w2.heap.size w2 wr))
    (fun vv _ => 64 - (match vv with | .slice _ m _ => m | _ => 0))
  case atStart => exact ⟨0, Nat.zero_le _, HO0, HP0⟩
  case round =>
    clear HO0 HP0
    obtain ⟨j, hj, HO, HP⟩ := hrel
    obtain ⟨A3, k3, rfl⟩ := own_slice HO.out
    obtain ⟨m, hm⟩ : ∃ m, m = (cN (pad1 j)).length := ⟨_, rfl⟩
    have hmj : m = j + 1 := by rw [hm, cN_length, pad1_length]
    rw [← hm]
    have c8 := (H2.out.below HP.out).c8
    rw [← HR.out.1] at c8
    obtain ⟨rm, hrm⟩ : ∃ rm, rm = r + m := ⟨_, rfl⟩
    have q1 : wrap64 ((r : Int) + (m : Int)) = (rm : Int) := by have := HL.out.1; have := HR.out.2; unfold wrap64; omega
    have HO' : Aside0 (wr.ownsRow w2.heap.size 5 1 (.slice A3 m k3) (cN (pad1 j)).length (nums .u8 (cN (pad1 j)))) := Aside0.mk (by rw [hm]; exact HO.out)
    have HM := Aside0.mk (And.intro hm (And.intro hmj hrm))
    have HJ := Aside0.mk hj
    have HL1 : Aside0 (((cN (pad1 j)).length + 1) * 1 ≤ 140737488355328) := Aside0.mk (by rw [cN_length, pad1_length]; omega)
    clear HO
    by_cases hx : rm % 64 = 56
    · have d1 : ((rm : Int) % 64 != 56) = false := by simp; omega
      have hJ : j = (119 - rest.length % 64) % 64 := by have := HR.out.2; omega
      have HJJ := Aside0.mk hJ
      clear hx hm hmj hrm hj hJ
      go_wp2
      have ho6 := HO'.out
      rw [HJJ.out] at ho6
      have HO6 := Aside0.mk (show wr.ownsRow w2.heap.size 5 1 (.slice A3 m k3) (cN (pad1 ((119 - rest.length % 64) % 64) ++ lens n 0)).length (nums .u8 (cN (pad1 ((119 - rest.length % 64) % 64) ++ lens n 0))) by rw [show lens n 0 = [] from rfl, List.append_nil]; exact ho6)
      clear ho6 c8 q1 d1
      generalize hP : pad1 ((119 - rest.length % 64) % 64) = Pd at *
      have HPD := Aside0.mk hP
      have hPl : Pd.length ≤ 64 := by rw [← hP, pad1_length]; omega
      have HPL := Aside0.mk hPl
      clear hP hPl
      generalize Value.slice A3 m k3 = v3 at *
      go_loopw [4, 5] (fun vv vi wr => ∃ t : Nat, t ≤ 8 ∧ vi = .int .i64 (56 - 8 * (t : Int)) ∧ Aside0 (wr.ownsRow w2.heap.size 5 1 vv (cN (Pd ++ lens n t)).length (nums .u8 (cN (Pd ++ lens n t)))) ∧ Aside0 (Below w2.heap.size w2 wr))
        (fun vv vi _ => (intOf vi + 8).toNat)
      case atStart => exact ⟨0, by omega, rfl, HO6, HP⟩
      case round =>
        clear HO6 HP HO'
        obtain ⟨t, ht, rfl, HO, HP⟩ := hrel
        obtain ⟨A7, k7, rfl⟩ := own_slice HO.out
        obtain ⟨m7, hm7⟩ : ∃ m, m = (cN (Pd ++ lens n t)).length := ⟨_, rfl⟩
        rw [← hm7]
        have hm8 : m7 = Pd.length + t := by rw [hm7, cN_length, List.length_append, lens_length]
        have HO7 : Aside0 (wr.ownsRow w2.heap.size 5 1 (.slice A7 m7 k7) (cN (Pd ++ lens n t)).length (nums .u8 (cN (Pd ++ lens n t)))) := Aside0.mk (by rw [hm7]; exact HO.out)
        have c9 := (HHB.out.below HP.out).c9
        have HL7 : Aside0 (((cN (Pd ++ lens n t)).length + 1) * 1 ≤ 140737488355328) := Aside0.mk (by have := HPL.out; rw [← hm7]; omega)
        have HM7 := Aside0.mk hm7
        have HM8 := Aside0.mk hm8
        clear HO
        by_cases hx : t < 8
        · obtain ⟨i, hi⟩ : ∃ i : Nat, i = 56 - 8 * t := ⟨_, rfl⟩
          have hz : (56 : Int) - 8 * (t : Int) = (i : Int) := by omega
          rw [hz]
          have HI := Aside0.mk (And.intro hi hx)
          clear hm7 hm8 ht hi hz hx
          go_wp2_with (first | ((with_reducible refine gate_dst (N := 39) rfl ?_); refine print_append_num (w0 := w2) w2.heap.size rfl (.tmp 28) (.tmp 38) 40 5 .u8 1 rfl rfl rfl (by omega) (.slice A7 m7 k7) (cN (Pd ++ lens n t)) (IntKind.u64.wrap (8 * IntKind.u64.wrap (n : Int)) / 2 ^ min i 64 % 256) rfl rfl HO7.out HP.out HP.out.size HL7.out ?_; intro v4 w4 ho4 hb4 hg4 hat4; clear hg4 hat4; have HO4 := Aside0.mk ho4; have HP4 := Aside0.mk hb4; clear ho4 hb4))
          have ho4 := HO4.out
          have e1 : IntKind.u64.wrap (8 * IntKind.u64.wrap (n : Int)) / 2 ^ min i 64 % 256 = ((lenb n t : Nat) : Int) := by
            have h1 := HL.out.2
            have h2 := HI.out.1
            have e2 : IntKind.u64.wrap (8 * IntKind.u64.wrap (n : Int)) = ((8 * n : Nat) : Int) := by rw [IntKind.wrap_u64, IntKind.wrap_u64]; omega
            rw [e2, show min i 64 = 56 - 8 * t by omega]
            unfold lenb
            rw [Int.natCast_emod, Int.natCast_ediv, Int.natCast_pow]
            rfl
          have e0 : cN (Pd ++ lens n t) ++ [IntKind.u64.wrap (8 * IntKind.u64.wrap (n : Int)) / 2 ^ min i 64 % 256] = cN (Pd ++ lens n (t + 1)) := by
            rw [e1, ← lens_succ, ← List.append_assoc, cN_append _ [lenb n t]]
            rfl
          rw [e0] at ho4
          have h2 := HI.out
          rw [show wrap64 ((i : Int) - 8) = (i : Int) - 8 by unfold wrap64; omega]
          refine ⟨⟨t + 1, by omega, by congr 1; omega, Aside0.mk ho4, HP4⟩, ?_⟩
          show ((i : Int) - 8 + 8).toNat < ((i : Int) + 8).toNat
          omega
        · have ht8 : t = 8 := by omega
          subst ht8
          have hz : (56 : Int) - 8 * ((8 : Nat) : Int) = -8 := by decide
          rw [hz]
          have hPd : Pd ++ lens n 8 = padl rest.length n := by rw [← HPD.out]; rfl
          have hBsP : Bs (Pd ++ lens n 8) := by rw [← HPD.out]; exact (Bs.pad1 _).append (Bs.lens _ _)
          have hC7 : Kd.C (Kd.int .u8) wr A7 (cN (Pd ++ lens n 8)).length (cN (Pd ++ lens n 8)) := by
            obtain ⟨A9, c9', e9, h9⟩ := own_reads_of (enc := Value.int .u8) (d := (0 : Int)) HO7.out
            injection e9 with e1 e2 e3
            rw [e1]
            exact Kd.C_of_reads h9
          have hf7 : ∀ ad, A7 = some ad → 0 < (cN (Pd ++ lens n 8)).length → ad.block ≠ g2 := by
            intro ad e _ he
            subst e
            have h1 := own_base HO7.out ad.block rfl
            have h2 := H2.out.size
            omega
          have hlen : (Pd ++ lens n 8).length ≤ 72 := by rw [List.length_append, lens_length]; have := HPL.out; omega
          have h2 := H2.out.below HP.out
          have HW := write_calls A7 k7 (Pd ++ lens n 8) wr g2 n s rest _ h2 hC7 hBsP hf7 (by have := HL.out.1; omega) (by have := HL.out.2; omega)
          rw [← HM7.out, hPd] at HW
          have HW := Aside0.mk HW
          clear hx hz ht hm7 hm8 hPd hBsP hC7 hf7 hlen h2 c9
          go_upto_region 10 with (first | ((with_reducible refine gate_callee (f := 25) rfl ?_); refine goesL_ (some 42) rfl rfl Try.func25 (by kernel_rfl) rfl #[.pointer (some ⟨g2, 0, none⟩), .slice A7 m7 k7] rfl (by (try simp only [List.map_toArray, List.map_cons, List.map_nil]); first | done | rfl) ?_; (with_reducible refine (HW.out).mono ?_); rintro e w5 ⟨rfl, v5, hH5, hk5, hat5⟩; refine ⟨_, rfl, ?_⟩))
          have H5 := Aside0.mk hH5
          have HK5 := Aside0.mk hk5
          clear hH5 hk5 hat5 HW
          have hBT : Below (w.heap.size + 1) w1 w5 := by
            have e := HS0.out
            have h1 := HB2.out.size
            have h2 := HP.out.size
            refine ((HB2.out.mono (by omega)).trans (HP.out.mono (by omega))).trans (HK5.out.below (by have := HG2.out; omega) ?_ (by omega))
            intro k hk
            have := HF2.out k hk
            omega
          have HA5 := Aside0.mk (HA0.out.below hBT (by omega))
          have HB5 := Aside0.mk (HB0.out.trans (hBT.mono (by omega)))
          clear hBT HB2 HP HK5 HAB HHB HO7 HL7 HM7 HM8 HW HPL HPD HM HJ HL1 HJJ HF2 H1
          have hsz : w.heap.size < w5.heap.size := HA5.out.size
          have hg2 : g2 < w5.heap.size := H5.out.size
          have HSZ := Aside0.mk (And.intro hsz hg2)
          clear hsz hg2
          generalize hS1 : (run s (rest ++ padl rest.length n)).1 = S1 at *
          have HS1 := Aside0.mk hS1
          clear hS1
          generalize (run s (rest ++ padl rest.length n)).2 = R1 at *
          go_upto_region 11 with (fail)
          refine wp_at (w2 := w5.alloc (.cells (ints .u8 (cN z32)).toArray 26)) rfl ?_
          have HA6 : Aside0 (Arr .u8 26 (w5.alloc (.cells (ints .u8 (cN z32)).toArray 26)) w5.heap.size (cN (S1.bytes.take 0 ++ List.replicate (32 - 0) 0))) := Aside0.mk (Arr.new w5 .u8 _ _)
          have HB6 : Aside0 (Below w5.heap.size w5 (w5.alloc (.cells (ints .u8 (cN z32)).toArray 26))) := Aside0.mk (below_alloc (Below.refl _ _) _)
          generalize w5.alloc (.cells (ints .u8 (cN z32)).toArray 26) = w6 at *
          go_wp2
          go_loopw [43] (fun vi wr => ∃ i : Nat, i ≤ 32 ∧ vi = .int .i64 (i : Int) ∧ Aside0 (Arr .u8 26 wr w5.heap.size (cN (S1.bytes.take i ++ List.replicate (32 - i) 0))) ∧ Aside0 (Below w5.heap.size w5 wr))
            (fun vi _ => 32 - (intOf vi).toNat)
          case atStart => exact ⟨0, by omega, rfl, HA6, HB6⟩
          case round =>
            clear HA6 HB6
            obtain ⟨i, hi, rfl, HA6, HB6⟩ := hrel
            by_cases hx : i < 32
            · have t1 : (i : Int) < 32 := by omega
              obtain ⟨i4, h4⟩ : ∃ j, j = i / 4 := ⟨_, rfl⟩
              obtain ⟨im, hm⟩ : ∃ j, j = i % 4 := ⟨_, rfl⟩
              obtain ⟨sh, hsh⟩ : ∃ j, j = 24 - 8 * im := ⟨_, rfl⟩
              obtain ⟨e8, he8⟩ : ∃ j, j = 8 * im := ⟨_, rfl⟩
              have q4 : (i : Int) / 4 = (i4 : Int) := by omega
              have q5 : (i : Int) % 4 = (im : Int) := by omega
              have q6 : wrap64 (8 * (im : Int)) = (e8 : Int) := by unfold wrap64; omega
              have q7 : wrap64 (24 - (e8 : Int)) = (sh : Int) := by unfold wrap64; omega
              have t2 : (i4 : Int) < 8 := by omega
              have hc := hcell (H5.out.below HB6.out) i4 (by omega)
              have hlen : (cN (S1.bytes.take i ++ List.replicate (32 - i) 0)).length = 32 := by rw [cN_length, List.length_append, List.length_take, List.length_replicate, bytes_length]; omega
              have hcw := HA6.out.cell i (by rw [hlen]; exact hx)
              have hfw := HA6.out.free i
              have hget := bytes_get S1 i hx
              have hok : S1.list.getD i4 0 < 4294967296 := list_lt S1 (H5.out.ok) i4
              rw [← h4, ← hm, ← hsh] at hget
              generalize S1.list.getD i4 0 = x at *
              have HX := Aside0.mk (And.intro hx (And.intro hsh (And.intro hm hok)))
              have HGET := Aside0.mk hget
              clear hx h4 hm hsh he8 hlen hget hok hi
              go_wp2
              have hv : (x : Int) / 2 ^ (24 - 8 * im) % 256 = ((S1.bytes.getD i 0 : Nat) : Int) := by
                rw [HGET.out, HX.out.2.1, Int.natCast_emod, Int.natCast_ediv, Int.natCast_pow]
                rfl
              rw [hv]
              have hA := HA6.out.set i ((S1.bytes.getD i 0 : Nat) : Int)
              rw [cN_set, take_set S1.bytes 32 i HX.out.1 (bytes_length S1)] at hA
              have hB := HB6.out.setCell (p := ⟨w5.heap.size, i, none⟩) (Nat.le_refl _) (.int .u8 ((S1.bytes.getD i 0 : Nat) : Int))
              have hx := HX.out.1
              exact ⟨⟨i + 1, by omega, by rw [Int.natCast_add]; rfl, Aside0.mk hA, Aside0.mk hB⟩, by show 32 - ((i : Int) + 1).toNat < 32 - (i : Int).toNat; omega⟩
            · have hi32 : i = 32 := by omega
              subst hi32
              clear hx
              have e0 : S1.bytes.take 32 ++ List.replicate (32 - 32) 0 = S1.bytes := by
                rw [Nat.sub_self, List.replicate_zero, List.append_nil, List.take_of_length_le (by rw [bytes_length S1]; exact Nat.le_refl _)]
              have hA1 := HA6.out
              rw [e0] at hA1
              clear e0 HA6
              have hA0 := HA5.out.below HB6.out HSZ.out.1
              have hB := HB5.out.trans (HB6.out.mono (Nat.le_of_lt HSZ.out.1))
              have hW := bytes_length S1
              generalize hWe : S1.bytes = W at *
              have HWE := Aside0.mk hWe
              clear hWe
              have hl1 : (ints .u8 (cN W)).length = 32 := by rw [ints_length, cN_length, hW]
              go_upto_region 16 with (fail)
              rename_i K0 hK0
              apply wp_region_lit
              refine wpList_load_mid rfl 26 (.tmp 6) rfl _ 0 rfl (ints .u8 (cN W)) _ hA1.range rfl rfl (by rw [hl1]; rfl) ?_
              refine wpList_store_mid rfl 26 (.tmp 2) (.tmp 62) rfl _ 0 (ints .u8 (cN W)).toArray rfl rfl (hA0.there (by rw [List.size_toArray, hl1]; rfl)) (by rw [List.size_toArray, hl1]; rfl) (all_oneCell_toArray (ints_one _ _)) ?_
              have hA2 := hA0.setCells (ys := cN W) (by rw [cN_length, cN_length, hW]; rfl)
              have hB2 := below_setCells (Nat.le_refl w.heap.size) (ints .u8 (cN W)) 0 wr hB
              apply wpList_nil
              refine hK0 _ _ ?_
              rw [List.toList_toArray]
              generalize wr.setCells w.heap.size 0 (ints .u8 (cN W)) = w9 at *
              go_wp2
              refine bodyPost_ret (v := .agg (ints .u8 (cN W)).toArray) ?_ rfl ⟨by rw [HS1.out, HWE.out], hB2⟩
              exact results_cell_row rfl _ _ w.heap.size 26 (ints .u8 (cN W)).toArray (0, 0) _ rfl hA2 rfl rfl (by rw [List.size_toArray, hl1]; rfl)
    · have d1 : ((rm : Int) % 64 != 56) = true := by simp; omega
      have hlt : j + 1 ≤ (119 - rest.length % 64) % 64 := by have := HR.out.2; omega
      have HLT := Aside0.mk hlt
      clear hx hm hmj hrm hj hlt
      go_wp2_with (first | ((with_reducible refine gate_dst (N := 23) rfl ?_); refine print_append_num (w0 := w2) w2.heap.size rfl (.tmp 21) (.tmp 22) 40 5 .u8 1 rfl rfl rfl (by omega) (.slice A3 m k3) (cN (pad1 j)) 0 rfl rfl HO'.out HP.out HP.out.size HL1.out ?_; intro v4 w4 ho4 hb4 hg4 hat4; clear hg4 hat4; obtain ⟨A4, k4, ev4⟩ := own_slice ho4; obtain ⟨m4, hm4⟩ : ∃ m4, m4 = (cN (pad1 j) ++ [0]).length := ⟨_, rfl⟩; rw [← hm4] at ev4; subst ev4; have HO4 := Aside0.mk ho4; have HP4 := Aside0.mk hb4; have HM4 := Aside0.mk hm4; clear ho4 hb4 hm4))
      have ho4 := HO4.out
      have hm4 := HM4.out
      have e0 : cN (pad1 j) ++ [0] = cN (pad1 (j + 1)) := by rw [← pad1_succ, cN_append]; rfl
      rw [e0] at ho4 hm4
      refine ⟨⟨j + 1, HLT.out, Aside0.mk ho4, HP4⟩, ?_⟩
      have h1 : m4 = j + 2 := by rw [hm4, cN_length, pad1_length]
      have h2 := HM.out.2.1
      have h3 := HLT.out
      show 64 - m4 < 64 - m
      omega
end Go.Proofs.Ytojlhmmmiebbmaa.PNonceLists
