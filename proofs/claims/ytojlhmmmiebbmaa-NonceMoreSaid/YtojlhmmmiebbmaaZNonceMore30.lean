/- What the proof of NonceMore is made of, part 30. -/
import Derived.Test.YtojlhmmmiebbmaaZNonceMore28
import Derived.Test.YtojlhmmmiebbmaaZNonceMore25
import Derived.Test.YtojlhmmmiebbmaaZNonceMore29
namespace Go.Proofs.Ytojlhmmmiebbmaa.PNonceLists
open Go.RowKit Go.Proofs.Ytojlhmmmiebbmaa Go.Proofs.YtojlhmmmiebbmaaW.PrintWords Go.Proofs.YtojlhmmmiebbmaaW.PrintLast Go.Proofs.YtojlhmmmiebbmaaW.PrintMore Go.Proofs.Ytojlhmmmiebbmaa.Sha Go.Proofs.Ytojlhmmmiebbmaa.Arr
attribute [local go_sem] max2_int min2_int max_two min_two max_three min_three max_four min_four
set_option linter.unusedVariables false
set_option linter.unusedSimpArgs false
/-- a list of numbers, its cells -/
def nws (l : List Nat) : List Value := l.flatMap nw
theorem nws_snoc (l : List Nat) (a : Nat) : nws (l ++ [a]) = nws l ++ nw a := by simp [nws]
theorem nws_get : ∀ (l : List Nat) (i : Nat) (x : Nat), l[i]? = some x → ∀ j v, (nw x)[j]? = some v → (nws l)[4 * i + j]? = some v
  | [], i, x, h, j, v, hj => by cases h
  | a :: l, 0, x, h, j, v, hj => by
    injection h with h
    subst h
    show (nw a ++ nws l)[4 * 0 + j]? = _
    rw [Nat.mul_zero, Nat.zero_add, List.getElem?_append_left (List.getElem?_eq_some_iff.1 hj).1]
    exact hj
  | a :: l, i + 1, x, h, j, v, hj => by
    show (nw a ++ nws l)[4 * (i + 1) + j]? = _
    rw [List.getElem?_append_right (by show 4 ≤ _; omega), show 4 * (i + 1) + j - (nw a).length = 4 * i + j by show 4 * (i + 1) + j - 4 = _; omega]
    exact nws_get l i x (by simpa using h) j v hj
/-- v is a list of numbers, at or above base -/
def NL (w : World) (base : Nat) (v : Value) (l : List Nat) : Prop := w.ownsRow base 24 4 v l.length (nws l)
section
variable {w w' : World} {base : Nat} {v : Value} {l : List Nat}
theorem NL.nil (w : World) (base : Nat) : NL w base (.slice none 0 0) [] := ⟨rfl, .inl ⟨rfl, rfl⟩⟩
theorem NL.own (h : NL w base v l) : ∀ q, v.ownBlock = some q → base ≤ q ∧ q < w.heap.size := World.ownsRow.lt h
theorem NL.move (h : NL w base v l) (hb : ∀ q, v.ownBlock = some q → w'.heap[q]? = w.heap[q]?) : NL w' base v l := by
  obtain ⟨h1, h2⟩ := h
  refine ⟨h1, ?_⟩
  rcases h2 with h2 | ⟨g, cap, cur, rfl, hg, h3, r⟩
  · exact .inl h2
  · exact .inr ⟨g, cap, cur, rfl, hg, (hb g rfl).trans h3, r⟩
theorem NL.on (h : NL w base v l) (hb : Below w.heap.size w w') : NL w' base v l := h.move fun q hq => hb.block q (h.own q hq).2
theorem NL.but {g : Nat} (h : NL w base v l) (hb : But w.heap.size g w w') (hg : v.ownBlock ≠ some g) : NL w' base v l := h.move fun q hq => hb.block q (h.own q hq).2 (fun e => hg (by rw [hq, e]))
theorem NL.lower {b : Nat} (h : NL w base v l) (hb : b ≤ base) : NL w b v l := own_low h hb
theorem NL.slice (h : NL w base v l) : ∃ A c, v = .slice A l.length c ∧ (∀ q, A = some q → ∃ g, q = ⟨g, 0, none⟩) := by
  rcases h.2 with ⟨rfl, h2⟩ | ⟨g, cap, cur, rfl, _⟩
  · exact ⟨none, 0, by rw [h2], fun q hq => by cases hq⟩
  · exact ⟨_, cap, rfl, fun q hq => by injection hq with hq; exact ⟨g, hq.symm⟩⟩
theorem NL.range {A : Option Addr} {c i x m : Nat} (h : NL w base (.slice A m c) l) (hi : l[i]? = some x) : ∃ g, A = some ⟨g, 0, none⟩ ∧ w.rangeAt g (4 * i) (nw x) := by
  have hlt : i < l.length := (List.getElem?_eq_some_iff.1 hi).1
  rcases h.2 with ⟨_, h2⟩ | ⟨g, cap, cur, hv, hg, h3, h4, h5, h6, h7⟩
  · omega
  · injection hv with e1 e2 e3
    refine ⟨g, e1, fun j v hj => ?_⟩
    have h8 := nws_get l i x hi j v hj
    have hj4 : j < 4 := (List.getElem?_eq_some_iff.1 hj).1
    rw [← h7, List.getElem?_take] at h8
    split at h8
    · simp only [World.cell?, h3]
      simpa using h8
    · cases h8
end
section
variable {ops : Array Oper} {rest : List Oper} {op : Oper} {a : Act} {w : World} {Q : Exit → Act → World → Prop}
/-- a row of one number laid -/
theorem bs_num {n : Nat} (hgd : op.guard = none) (d : Option Tmp) (hd : op.dst = d) (x : Operand) (ho : op.op = .buildSlice 28 1 #[(0, x)]) (hx : a.eval x = numV n)
    (k : ∀ g w', g = w.heap.size → NAt w' g n → Below w.heap.size w w' → wpList Try.prog ops Q rest (a.put d (.slice (some ⟨g, 0, none⟩) 1 1)) w') : wpList Try.prog ops Q (op :: rest) a w := by
  obtain ⟨ie, hi, hz, hs4, hby⟩ := info_parts (P := Try.prog) (e := 24) (z := numV 0) (size := 4) (bytes := 32) (by kernel_rfl)
  subst hd
  refine wpList_buildSlice hgd _ 24 1 _ ho (nw n).toArray ie (numV 0) (by kernel_rfl) hi hz (by rw [hs4]; decide) (by rw [hs4]; decide) ?_ (k _ _ rfl (Row.new w _ _) (below_alloc (Below.refl _ _) _))
  rw [hs4]
  simp only [List.map_toArray, List.map_cons, List.map_nil, hx]
  first | kernel_rfl | (simp [Instr.fill, numV_def]; done) | (simp [Instr.fill, numV_def, nw]; done)
theorem wpList_wanted (hw : Region.wanted op (yielded ops a.tmps) = true) {P : Program} (h : ∀ K : Act → World → Prop, (∀ a w, wpList P ops Q rest a w → K a w) → op.wp P a w K Q) : wpList P ops Q (op :: rest) a w :=
  wpList_step fun K hK => by rw [if_pos hw]; exact h K hK
/-- a whole load under a guard that lets it -/
theorem ld_numG {g o n : Nat} (h : w.rangeAt g o (nw n)) (hw : Region.wanted op (yielded ops a.tmps) = true) (x : Operand) (ho : op.op = .load 24 x) (hx : a.eval x = .pointer (some ⟨g, o, none⟩))
    (k : wpList Try.prog ops Q rest (a.put op.dst (numV n)) w) : wpList Try.prog ops Q (op :: rest) a w :=
  wpList_wanted hw fun K hK => wp_load_mid 24 x ho g o hx (nw n) _ h rfl rfl rfl (hK _ _ k)
theorem news_row {T : TypeId} {g : Nat} {vs : List Value} (h : Row T w g vs) : ∀ j u, vs[j]? = some u → w.cell? ((⟨g, 0, none⟩ : Addr).add j) = some u := fun j u hu => by
  have h1 := h.cell j u hu
  rw [Addr.add_mid, Nat.zero_add]
  exact h1
/-- append(l, n) -/
theorem ap_num {base gn n : Nat} {v : Value} {l : List Nat} (hO : NL w base v l) (hN : NAt w gn n) (hb : base ≤ w.heap.size) (hl : l.length ≤ 1000) (hgd : op.guard = none) (s x : Operand) (ho : op.op = .call { callee := .builtin .append, args := #[s, x], argTypes := #[28, 28] })
    (hs : a.eval s = v) (hx : a.eval x = .slice (some ⟨gn, 0, none⟩) 1 1)
    (k : ∀ g c m w', NL w' base (.slice (some ⟨g, 0, none⟩) m c) (l ++ [n]) → w.grownBy w' v.ownBlock → (v.ownBlock = some g ∨ g = w.heap.size) → wpList Try.prog ops Q rest (a.put op.dst (.slice (some ⟨g, 0, none⟩) m c)) w') : wpList Try.prog ops Q (op :: rest) a w := by
  obtain ⟨i, hi, hz, hs4, hby⟩ := info_parts (P := Try.prog) (e := 24) (z := numV 0) (size := 4) (bytes := 32) (by kernel_rfl)
  refine wpList_append_lies w hgd s x _ ho base 24 i _ 4 32 (by kernel_rfl) hi hz hs4 hby rfl (by decide) v l.length (nws l) hs hO ⟨gn, 0, none⟩ 1 1 (nw n) hx rfl (news_row hN) (nw_one n) (by decide) (by show _ ≤ 9223372036854775807; omega) (by omega) hb _ rfl ?_
  intro g c w' h1 h2 h3 _
  have e : l.length + 1 = (l ++ [n]).length := by simp
  rw [e] at h1 ⊢
  exact k g c _ w' (by unfold NL; rw [nws_snoc]; exact h1) h2 h3
end
theorem Src.grown {w w' : World} {g bk bv : Nat} {k v : List Nat} {q : Option Nat} (h : Src w g bk bv k v) (hg : w.grownBy w' q) (h1 : q ≠ some g) (h2 : q ≠ some bk) (h3 : q ≠ some bv) : Src w' g bk bv k v := by
  have hlt := h.lt
  have hc : ∀ {b : Nat} {xs : List Int}, b < w.heap.size → q ≠ some b → Kd.C (Kd.int .u8) w (some ⟨b, 0, none⟩) xs.length xs → Kd.C (Kd.int .u8) w' (some ⟨b, 0, none⟩) xs.length xs := by
    intro b xs hb hq hC
    have hr := reads_of .u8 hC
    refine Kd.C_of_reads (enc := Value.int .u8) (d := (0 : Int)) (h1 := fun _ => rfl) ⟨hr.1, hr.2.1, fun hp => ?_⟩
    obtain ⟨ad, e, hcc⟩ := hr.2.2 hp
    refine ⟨ad, e, fun j hj => ?_⟩
    have h2 := hcc j hj
    cases e
    rw [Addr.add_mid] at h2 ⊢
    rw [← h2]
    simp only [World.cell?]
    rw [hg.block b hb (fun e => hq e.symm)]
  exact ⟨Row.block h.row (hg.block g hlt.1 (fun e => h1 e.symm)), hc hlt.2.1 h2 h.ck, hc hlt.2.2 h3 h.cv, h.lk, h.lv, h.bsk, h.bsv, h.nek, h.nev⟩
/-- a digest's variable -/
theorem new_dig (w : World) (l : List Nat) : ∃ w1, w.alloc (.cells (ints .u8 (cN l)).toArray 26) = w1 ∧ Arr .u8 26 w1 w.heap.size (cN l) ∧ Below w.heap.size w w1 ∧ w1.heap.size = w.heap.size + 1 :=
  ⟨_, rfl, Arr.new w _ _ _, below_alloc (Below.refl _ _) _, by simp⟩
/-- the candidates: of a source, so many, at most so many tries -/
def nxN (s : List Nat × List Nat) : Nat := beN (macOf s.1 s.2)
def nxS (s : List Nat × List Nat) : List Nat × List Nat := (mixK s.1 (macOf s.1 s.2) [0], mixV s.1 (macOf s.1 s.2) [0])
theorem meas100 {t : Nat} (h : t < 100) : 100 - (intOf (.int .i64 ((t : Int) + 1))).toNat < 100 - (intOf (.int .i64 (t : Int))).toNat := by simp [intOf]; omega
def runN (many : Nat) : Nat → List Nat × List Nat → List Nat → List Nat
  | 0, _, out => out
  | f + 1, s, out => if out.length = many then out else runN many f (nxS s) (if mayN (nxN s) then out ++ [nxN s] else out)
def candN (d m many : Nat) : List Nat := runN many 100 (stB (byt d ++ byt m) 2) []
theorem beN_lt32 {bs : List Nat} (h : Bs bs) (hl : bs.length ≤ 32) : beN bs < N256 :=
  Nat.lt_of_lt_of_le (beN_lt bs h) (Nat.le_trans (Nat.pow_le_pow_right (by decide) hl) (show 256 ^ 32 ≤ N256 by decide +kernel))
theorem nxN_lt (s : List Nat × List Nat) : nxN s < N256 := by
  unfold nxN
  exact beN_lt32 (macOf_bs _ _) (by show (macOf s.1 s.2).length ≤ 32; exact Nat.le_refl 32)
theorem runN_all (p : Nat → Prop) (many : Nat) : ∀ (f : Nat) (s : List Nat × List Nat) (out : List Nat), (∀ x ∈ out, p x) → (∀ x, mayN x = true → p x) → ∀ x ∈ runN many f s out, p x
  | 0, s, out, h, h2 => h
  | f + 1, s, out, h, h2 => by
    unfold runN
    split
    · exact h
    · refine runN_all p many f _ _ ?_ h2
      split
      · rename_i hm
        intro x hx
        rcases List.mem_append.1 hx with hx | hx
        · exact h x hx
        · rw [List.mem_singleton.1 hx]; exact h2 _ hm
      · exact h
theorem runN_len (many : Nat) : ∀ (f : Nat) (s : List Nat × List Nat) (out : List Nat), out.length ≤ many → (runN many f s out).length ≤ many
  | 0, s, out, h => h
  | f + 1, s, out, h => by
    unfold runN
    split
    · exact h
    · refine runN_len many f _ _ ?_
      split
      · rw [List.length_append]; show out.length + 1 ≤ many; omega
      · exact h
theorem runN_pre (many : Nat) : ∀ (f : Nat) (s : List Nat × List Nat) (out : List Nat), ∃ t, runN many f s out = out ++ t
  | 0, s, out => ⟨[], by unfold runN; simp⟩
  | f + 1, s, out => by
    unfold runN
    split
    · exact ⟨[], by simp⟩
    · obtain ⟨t, ht⟩ := runN_pre many f (nxS s) (if mayN (nxN s) then out ++ [nxN s] else out)
      split at ht
      · rename_i hm
        rw [if_pos hm]
        exact ⟨nxN s :: t, by rw [ht]; simp⟩
      · rename_i hm
        rw [if_neg hm]
        exact ⟨t, ht⟩
theorem runN_step {many i : Nat} {s : List Nat × List Nat} {l R : List Nat} (h : runN many (100 - i) s l = R) (hi : i < 100) (hl : l.length ≠ many) : runN many (100 - (i + 1)) (nxS s) (if mayN (nxN s) then l ++ [nxN s] else l) = R := by
  rw [show 100 - i = 100 - (i + 1) + 1 by omega] at h
  rw [← h]
  conv => rhs; unfold runN
  rw [if_neg hl]
theorem runN_full {many f : Nat} {s : List Nat × List Nat} {l R : List Nat} (h : runN many f s l = R) (hl : l.length = many) : R = l := by
  rw [← h]
  cases f
  · rfl
  · unfold runN
    rw [if_pos hl]
theorem runN_fewer (fewer many : Nat) (h : fewer ≤ many) : ∀ (f : Nat) (s : List Nat × List Nat) (out : List Nat), out.length ≤ fewer → runN fewer f s out = (runN many f s out).take fewer
  | 0, s, out, hl => by unfold runN; rw [List.take_of_length_le hl]
  | f + 1, s, out, hl => by
    by_cases he : out.length = fewer
    · obtain ⟨t, ht⟩ := runN_pre many (f + 1) s out
      rw [ht, ← he, List.take_left]
      unfold runN
      rw [if_pos rfl]
    · have h2 : out.length ≠ many := by omega
      unfold runN
      rw [if_neg he, if_neg h2]
      refine runN_fewer fewer many h f _ _ ?_
      split
      · rw [List.length_append]; show out.length + 1 ≤ fewer; omega
      · exact hl
set_option maxRecDepth 100000 in
set_option maxHeartbeats 8000000 in
/-- nonce.List of what may not be -/
theorem list_bad (d : Nat) (h : List Nat) (many : Int) (w : World) (hd : d < N256) (hh : h.length = 32) (hbad : ¬(mayN d = true ∧ 0 ≤ many ∧ many ≤ 16)) :
    Calls Try.prog 6 #[numV d, .agg (ints .u8 (cN h)).toArray, .int .i64 many] w fun e w' => e = .returned (.tuple #[.slice none 0 0, .iface 34 (.int .i64 1)]) ∧ Below w.heap.size w w' := by
  obtain ⟨n1, hn1⟩ : ∃ n, n = nN := ⟨_, rfl⟩
  have HPN := Aside0.mk (fun u => pn_calls u)
  have HFN := Aside0.mk (fun u => fnew_calls nN u nN_lt nN_odd nN_one)
  have HMD := Aside0.mk (fun u => may_calls d u hd)
  rw [← hn1] at HPN HFN
  clear hn1 hd hh
  obtain ⟨D, hD⟩ : ∃ D, D = mayN d := ⟨_, rfl⟩
  rw [← hD] at HMD hbad
  clear hD
  go_enter Try.func6, Try.ntmps6
  go_upto_region 1 with (fail)
  refine wp_at (w2 := (World.alloc (World.alloc w (.cells (nw d).toArray 24)) (.cells (ints .u8 (cN h)).toArray 26))) rfl ?_
  obtain ⟨x_0, e_0, h_0, b_0, s_0⟩ := new_num w d
  obtain ⟨x_1, e_1, h_1, b_1, s_1⟩ := new_dig x_0 h
  rw [e_0, e_1]
  rw [s_0] at h_1 s_1
  have HB : Aside0 (Below w.heap.size w x_1) := Aside0.mk (bl_both b_0 b_1)
  have HD : Aside0 (NAt x_1 (w.heap.size) d) := Aside0.mk (h_0.on b_1)
  have HH : Aside0 (Arr .u8 26 x_1 (w.heap.size + 1) (cN h)) := Aside0.mk h_1
  have HS : Aside0 (w.heap.size + 1 + 1 ≤ x_1.heap.size) := Aside0.mk (Nat.le_of_eq s_1.symm)
  clear e_0 h_0 b_0 s_0 e_1 h_1 b_1 s_1
  obtain ⟨w1, hw_⟩ : ∃ x, x = x_1 := ⟨_, rfl⟩
  subst hw_
  clear x_0
  go_upto_region 2 with (first | ((with_reducible refine gate_callee (f := 12) rfl ?_); refine goesL_ (some 16) rfl rfl Try.func12 (by kernel_rfl) rfl #[] rfl (by (try simp only [List.map_toArray, List.map_cons, List.map_nil]); first | done | rfl) ?_; (with_reducible refine (HPN.out _).mono ?_); rintro e u1 ⟨rfl, hb1⟩; have HX1 := Aside0.mk hb1; clear hb1; refine ⟨_, rfl, ?_⟩) | ((with_reducible refine gate_callee (f := 11) rfl ?_); refine goesL_ (some 17) rfl rfl Try.func11 (by kernel_rfl) rfl #[numV n1] rfl (by (try simp only [List.map_toArray, List.map_cons, List.map_nil]); first | done | rfl) ?_; (with_reducible refine (HFN.out _).mono ?_); rintro e u2 ⟨gf, rfl, hgf, hF2, hb2⟩; have HX2 := Aside0.mk hb2; have HF2 := Aside0.mk hF2; clear hb2 hF2 hgf; refine ⟨_, rfl, ?_⟩))
  have HD2 := Aside0.mk ((HD.out.on HX1.out).on HX2.out)
  cases D
  · go_wp2_with (first | ((with_reducible refine gate_dst (N := 23) rfl ?_); refine ld_numG (HD2.out.range) (by rfl) _ rfl rfl ?_) | ((with_reducible refine gate_callee (f := 13) rfl ?_); refine wpList_step (fun K_ hK_ => ?_); refine goes_ Try.func13 (by kernel_rfl) rfl #[numV d] (by rfl) rfl rfl (by (try simp only [List.map_toArray, List.map_cons, List.map_nil]); first | done | rfl) ?_; (with_reducible refine (HMD.out _).mono ?_); rintro e u3 ⟨rfl, hb3⟩; have HX3 := Aside0.mk hb3; clear hb3; refine ⟨_, rfl, ?_⟩; refine hK_ _ _ ?_; clear hK_ K_))
    refine bodyPost_ret (v := .tuple #[.slice none 0 0, .iface 34 (.int .i64 1)]) (by simp [results, Try.results6, go_sem]) rfl ⟨rfl, bl_on (bl_on (bl_on HB.out HX1.out HB.out.size) HX2.out (Nat.le_trans HB.out.size HX1.out.size)) HX3.out (Nat.le_trans (Nat.le_trans HB.out.size HX1.out.size) HX2.out.size)⟩
  · by_cases h0 : many < 0
    · clear hbad
      go_wp2_with (first | ((with_reducible refine gate_dst (N := 23) rfl ?_); refine ld_numG (HD2.out.range) (by rfl) _ rfl rfl ?_) | ((with_reducible refine gate_callee (f := 13) rfl ?_); refine wpList_step (fun K_ hK_ => ?_); refine goes_ Try.func13 (by kernel_rfl) rfl #[numV d] (by rfl) rfl rfl (by (try simp only [List.map_toArray, List.map_cons, List.map_nil]); first | done | rfl) ?_; (with_reducible refine (HMD.out _).mono ?_); rintro e u3 ⟨rfl, hb3⟩; have HX3 := Aside0.mk hb3; clear hb3; refine ⟨_, rfl, ?_⟩; refine hK_ _ _ ?_; clear hK_ K_))
      refine bodyPost_ret (v := .tuple #[.slice none 0 0, .iface 34 (.int .i64 1)]) (by simp [results, Try.results6, go_sem]) rfl ⟨rfl, bl_on (bl_on (bl_on HB.out HX1.out HB.out.size) HX2.out (Nat.le_trans HB.out.size HX1.out.size)) HX3.out (Nat.le_trans (Nat.le_trans HB.out.size HX1.out.size) HX2.out.size)⟩
    · have h1 : 16 < many := by
        by_cases h1 : many ≤ 16
        · exact absurd ⟨rfl, by omega, h1⟩ hbad
        · omega
      clear hbad
      go_wp2_with (first | ((with_reducible refine gate_dst (N := 23) rfl ?_); refine ld_numG (HD2.out.range) (by rfl) _ rfl rfl ?_) | ((with_reducible refine gate_callee (f := 13) rfl ?_); refine wpList_step (fun K_ hK_ => ?_); refine goes_ Try.func13 (by kernel_rfl) rfl #[numV d] (by rfl) rfl rfl (by (try simp only [List.map_toArray, List.map_cons, List.map_nil]); first | done | rfl) ?_; (with_reducible refine (HMD.out _).mono ?_); rintro e u3 ⟨rfl, hb3⟩; have HX3 := Aside0.mk hb3; clear hb3; refine ⟨_, rfl, ?_⟩; refine hK_ _ _ ?_; clear hK_ K_))
      refine bodyPost_ret (v := .tuple #[.slice none 0 0, .iface 34 (.int .i64 1)]) (by simp [results, Try.results6, go_sem]) rfl ⟨rfl, bl_on (bl_on (bl_on HB.out HX1.out HB.out.size) HX2.out (Nat.le_trans HB.out.size HX1.out.size)) HX3.out (Nat.le_trans (Nat.le_trans HB.out.size HX1.out.size) HX2.out.size)⟩
set_option maxRecDepth 100000 in
set_option maxHeartbeats 8000000 in
/-- nonce.List -/
theorem list_calls (d : Nat) (h : List Nat) (many : Nat) (w : World) (hd : d < N256) (hh : h.length = 32) (hbs : Bs h) (hmay : mayN d = true) (hm : many ≤ 16) :
    Calls Try.prog 6 #[numV d, .agg (ints .u8 (cN h)).toArray, .int .i64 (many : Int)] w fun e w' => ((candN d (beN h % nN) many).length < many ∧ e = .returned (.tuple #[.slice none 0 0, .iface 34 (.int .i64 4)])) ∧ Below w.heap.size w w' ∨ (candN d (beN h % nN) many).length = many ∧ (∃ v, e = .returned (.tuple #[v, .nilIface]) ∧ NL w' w.heap.size v (candN d (beN h % nN) many)) ∧ Below w.heap.size w w' := by
  obtain ⟨n1, hn1⟩ : ∃ n, n = nN := ⟨_, rfl⟩
  have HPN := Aside0.mk (fun u => pn_calls u)
  have HFN := Aside0.mk (fun u => fnew_calls nN u nN_lt nN_odd nN_one)
  have HMD := Aside0.mk (fun u => may_calls d u hd)
  rw [hmay] at HMD
  obtain ⟨m, hmd⟩ : ∃ m, m = beN h := ⟨_, rfl⟩
  have hmN : m < N256 := by rw [hmd]; exact beN_lt32 hbs (by rw [hh]; exact Nat.le_refl _)
  obtain ⟨q, hq⟩ : ∃ q, q = m % nN := ⟨_, rfl⟩
  have hqN : q < N256 := by rw [hq]; exact Nat.lt_trans (Nat.mod_lt _ nN_pos) nN_lt
  have HAD : Aside0 (∀ u g, FAt u g nN (turnN nN) (N256 % nN) (N512 % nN) → Calls Try.prog 16 #[.pointer (some ⟨g, 0, none⟩), numV m, .agg #[.int .u64 0, .int .u64 0, .int .u64 0, .int .u64 0]] u fun e w' => e = .returned (numV q) ∧ Below u.heap.size u w') := Aside0.mk (fun u g hF => by
    have h := fieldadd_calls m 0 u hF nN_lt nN_pos hmN N256_pos
    rw [Nat.zero_mod, Nat.add_zero, Nat.mod_mod, ← hq] at h
    exact h)
  have HBG := Aside0.mk (fun u => begin_calls d q u hd hqN)
  rw [← hmd, ← hq]
  obtain ⟨R, hR⟩ : ∃ R, R = candN d q many := ⟨_, rfl⟩
  have HRR : Aside0 (runN many 100 (stB (byt d ++ byt q) 2) [] = R) := Aside0.mk hR.symm
  rw [← hR]
  generalize stB (byt d ++ byt q) 2 = S0 at *
  have HOF : Aside0 (∀ u g, Arr .u8 26 u g (cN h) → Calls Try.prog 14 #[.slice (some ⟨g, 0, none⟩) 32 32] u fun e w' => e = .returned (.tuple #[numV m, .nilIface]) ∧ Below u.heap.size u w') := Aside0.mk (fun u g hA => by
    have h1 := Go.Proofs.Ytojlhmmmiebbmaa.of_calls (cap := 32) (C_BAt (arr_C hA (by rw [hh]; decide)) hbs) (by rw [hh]; exact Nat.le_refl _)
    rw [hh, ← hmd] at h1
    exact h1)
  rw [← hn1] at HPN HFN HAD
  generalize turnN n1 = tn at *
  generalize N256 % n1 = on at *
  generalize N512 % n1 = sn at *
  have HMY := Aside0.mk hm
  have t0 : ¬ (many : Int) < 0 := by omega
  have t1 : ¬ (16 : Int) < (many : Int) := by omega
  have HHL := Aside0.mk hh
  clear hn1 hd hh hm hmay hbs hmd hmN hq hqN hR
  go_enter Try.func6, Try.ntmps6
  go_upto_region 1 with (fail)
  refine wp_at (w2 := (World.alloc (World.alloc w (.cells (nw d).toArray 24)) (.cells (ints .u8 (cN h)).toArray 26))) rfl ?_
  obtain ⟨x_0, e_0, h_0, b_0, s_0⟩ := new_num w d
  obtain ⟨x_1, e_1, h_1, b_1, s_1⟩ := new_dig x_0 h
  rw [e_0, e_1]
  rw [s_0] at h_1 s_1
  have HB : Aside0 (Below w.heap.size w x_1) := Aside0.mk (bl_both b_0 b_1)
  have HD : Aside0 (NAt x_1 (w.heap.size) d) := Aside0.mk (h_0.on b_1)
  have HH : Aside0 (Arr .u8 26 x_1 (w.heap.size + 1) (cN h)) := Aside0.mk h_1
  have HS : Aside0 (w.heap.size + 1 + 1 ≤ x_1.heap.size) := Aside0.mk (Nat.le_of_eq s_1.symm)
  clear e_0 h_0 b_0 s_0 e_1 h_1 b_1 s_1
  obtain ⟨w1, hw_⟩ : ∃ x, x = x_1 := ⟨_, rfl⟩
  subst hw_
  clear x_0
  go_upto_region 2 with (first | ((with_reducible refine gate_callee (f := 12) rfl ?_); refine goesL_ (some 16) rfl rfl Try.func12 (by kernel_rfl) rfl #[] rfl (by (try simp only [List.map_toArray, List.map_cons, List.map_nil]); first | done | rfl) ?_; (with_reducible refine (HPN.out _).mono ?_); rintro e u1 ⟨rfl, hb1⟩; have HX1 := Aside0.mk hb1; clear hb1; refine ⟨_, rfl, ?_⟩) | ((with_reducible refine gate_callee (f := 11) rfl ?_); refine goesL_ (some 17) rfl rfl Try.func11 (by kernel_rfl) rfl #[numV n1] rfl (by (try simp only [List.map_toArray, List.map_cons, List.map_nil]); first | done | rfl) ?_; (with_reducible refine (HFN.out _).mono ?_); rintro e u2 ⟨gf, rfl, hgf, hF2, hb2⟩; have HX2 := Aside0.mk hb2; have HF2 := Aside0.mk hF2; clear hb2 hF2 hgf; refine ⟨_, rfl, ?_⟩))
  have HD2 := Aside0.mk ((HD.out.on HX1.out).on HX2.out)
  go_upto_region 4 with (first | ((with_reducible refine gate_dst (N := 23) rfl ?_); refine ld_numG (HD2.out.range) (by rfl) _ rfl rfl ?_) | ((with_reducible refine gate_callee (f := 13) rfl ?_); refine wpList_step (fun K_ hK_ => ?_); refine goes_ Try.func13 (by kernel_rfl) rfl #[numV d] (by rfl) rfl rfl (by (try simp only [List.map_toArray, List.map_cons, List.map_nil]); first | done | rfl) ?_; (with_reducible refine (HMD.out _).mono ?_); rintro e u3 ⟨rfl, hb3⟩; have HX3 := Aside0.mk hb3; clear hb3; refine ⟨_, rfl, ?_⟩; refine hK_ _ _ ?_; clear hK_ K_))
  clear t0 t1
  have HB3 : Aside0 (Below w.heap.size w u3) := Aside0.mk (bl_on (bl_on (bl_on HB.out HX1.out HB.out.size) HX2.out (Nat.le_trans HB.out.size HX1.out.size)) HX3.out (Nat.le_trans (Nat.le_trans HB.out.size HX1.out.size) HX2.out.size))
  have HD3 := Aside0.mk (HD2.out.on HX3.out)
  have HF3 := Aside0.mk (HF2.out.on HX3.out)
  have HH3 := Aside0.mk (((HH.out.on HX1.out).on HX2.out).on HX3.out)
  have HS3 : Aside0 (w.heap.size + 2 ≤ u3.heap.size) := Aside0.mk (Nat.le_trans HS.out (Nat.le_trans HX1.out.size (Nat.le_trans HX2.out.size HX3.out.size)))
  clear HD2 HF2 HX1 HX2 HX3 HB HD HH HS HMD HPN HFN
  have HOF := Aside0.mk (HOF.out _ _ HH3.out)
  go_upto_region 5 with (first | ((with_reducible refine gate_callee (f := 14) rfl ?_); refine goesL_ (some 38) rfl rfl Try.func14 (by kernel_rfl) rfl #[.slice (some ⟨w.heap.size + 1, 0, none⟩) 32 32] rfl (by (try simp only [List.map_toArray, List.map_cons, List.map_nil]); first | done | rfl) ?_; (with_reducible refine (HOF.out).mono ?_); rintro e u4 ⟨rfl, hb4⟩; have HX4 := Aside0.mk hb4; clear hb4; refine ⟨_, rfl, ?_⟩) | ((with_reducible refine gate_dst (N := 10) rfl ?_); refine al_num rfl _ rfl rfl ?_; intro gm u5 egn hn5 hb5; have HX5 := Aside0.mk hb5; have HN5 := Aside0.mk hn5; have HGN : Aside0 (gm = u4.heap.size) := Aside0.mk egn; clear hn5 hb5 egn) | ((with_reducible refine gate_st (y := .tmp 39) rfl ?_); (try simp only [Act.put, List.setIfInBounds_toArray, List.set_cons_zero, List.set_cons_succ]); refine st_num HN5.out rfl _ _ rfl rfl rfl ?_; intro u6 hn6 hb6; have HN6 := Aside0.mk hn6; have HX6 := Aside0.mk hb6; clear hn6 hb6))
  have HGE : Aside0 (w.heap.size + 2 ≤ gm ∧ u3.heap.size ≤ gm) := Aside0.mk (by have h1 := HX4.out.size; have h2 := HS3.out; rw [HGN.out]; omega)
  have HB6 : Aside0 (Below w.heap.size w u6) := Aside0.mk (bl_but (bl_on (bl_on HB3.out HX4.out HB3.out.size) HX5.out (Nat.le_trans HB3.out.size HX4.out.size)) HX6.out (Nat.le_trans (Nat.le_trans HB3.out.size HX4.out.size) HX5.out.size) (by have := HGE.out; omega))
  have HD6 := Aside0.mk (((HD3.out.on HX4.out).on HX5.out).but HX6.out (by have := HGE.out; omega))
  have HF6 := Aside0.mk (((HF3.out.on HX4.out).on HX5.out).but HX6.out (by have h1 := HF3.out.size; have := HGE.out; omega))
  clear HOF HD3 HF3 HH3 HB3 HX4 HX5 HX6 HN5 HGN HS3
  refine start_ (n := 7) (S := fun w' => Below u6.heap.size u6 w') (ds := []) #[false, false, false, false, false, false, false] (by kernel_rfl) rfl rfl ((Below.refl _ _).drew) (fun hHeld => ?_)
  refine pure_ (i := 1) (N := some 42) (v := ?_) (a' := ?_) #[false, true, false, false, false, false, false] rfl rfl (by kernel_rfl) (fun _ _ _ h => h) (Or.inl ⟨by rfl, ?_⟩) ?_ ?_
  rotate_left
  · intro w'
    go_simp
    with_reducible rfl
  rotate_left
  · simp only [Act.put, List.setIfInBounds_toArray, List.set_cons_zero, List.set_cons_succ, i64_w, i32_w]
    rfl
  refine pure_ (i := 3) (N := some 44) (v := ?_) (a' := ?_) #[false, true, false, true, false, false, false] rfl rfl (by kernel_rfl) (fun _ _ _ h => h) (Or.inl ⟨by rfl, ?_⟩) ?_ ?_
  rotate_left
  · intro w'
    go_simp
    with_reducible rfl
  rotate_left
  · simp only [Act.put, List.setIfInBounds_toArray, List.set_cons_zero, List.set_cons_succ, i64_w, i32_w]
    rfl
  refine take_ (i := 0) (N := some 41) (a' := ?_) #[true, true, false, true, false, false, false] rfl rfl (by kernel_rfl) (fun _ _ _ h => h) (yields_num (g := w.heap.size) (o := 0) (n := d) (by rfl) (.tmp 3) rfl rfl (fun w' hS => (HD6.out.on hS).range)) hHeld ?_ ?_
  rotate_left
  · simp only [Act.put, List.setIfInBounds_toArray, List.set_cons_zero, List.set_cons_succ, i64_w, i32_w]
    rfl
  refine take_ (i := 2) (N := some 43) (a' := ?_) #[true, true, true, true, false, false, false] rfl rfl (by kernel_rfl) (fun _ _ _ h => h) (yields_num (g := gm) (o := 0) (n := m) (by rfl) (.tmp 10) rfl rfl (fun w' hS => (HN6.out.on hS).range)) hHeld ?_ ?_
  rotate_left
  · simp only [Act.put, List.setIfInBounds_toArray, List.set_cons_zero, List.set_cons_succ, i64_w, i32_w]
    rfl
  refine one_ (i := 4) (N := some 45) #[true, true, true, true, true, false, false] rfl rfl (by kernel_rfl) (by decide) (fun K hK => ?_)
  refine goes_ Try.func16 (by kernel_rfl) rfl #[.pointer (some ⟨gf, 0, none⟩), numV m, .agg #[.int .u64 0, .int .u64 0, .int .u64 0, .int .u64 0]] (by rfl) rfl rfl (by simp only [List.map_toArray, List.map_cons, List.map_nil]; rfl) ?_
  with_reducible refine (HAD.out _ _ (HF6.out.on hHeld)).mono ?_
  rintro e u7 ⟨rfl, hb7⟩
  refine ⟨_, rfl, ?_⟩
  refine hK.out _ _ (bl_on hHeld hb7 hHeld.size) (fun hHeld => ?_)
  clear hK K
  refine norm_ (a' := ?_) ?_ ?_
  rotate_left
  · show Act.put _ (some 45) _ = _
    simp only [Act.put, List.setIfInBounds_toArray, List.set_cons_zero, List.set_cons_succ, i64_w, i32_w]
    rfl
  refine one_ (i := 5) (N := some 46) #[true, true, true, true, true, true, false] rfl rfl (by kernel_rfl) (by decide) (fun K hK => ?_)
  refine goes_ Try.func15 (by kernel_rfl) rfl #[numV d, numV q] (by rfl) rfl rfl (by simp only [List.map_toArray, List.map_cons, List.map_nil]; rfl) ?_
  with_reducible refine (HBG.out _).mono ?_
  rintro e u8 ⟨gs, bk0, bv0, rfl, hgs, hs8, hb8⟩
  refine ⟨_, rfl, ?_⟩
  refine hK.out _ _ (bl_on hHeld hb8 hHeld.size) (fun hHeld => ?_)
  clear hK K
  refine norm_ (a' := ?_) ?_ ?_
  rotate_left
  · show Act.put _ (some 46) _ = _
    simp only [Act.put, List.setIfInBounds_toArray, List.set_cons_zero, List.set_cons_succ, i64_w, i32_w]
    rfl
  refine pure_ (i := 6) (N := some 12) (v := ?_) (a' := ?_) #[true, true, true, true, true, true, true] rfl rfl (by kernel_rfl) (fun _ _ _ h => h) (Or.inl ⟨by rfl, ?_⟩) ?_ ?_
  rotate_left
  · intro w'
    go_simp
    with_reducible rfl
  rotate_left
  · simp only [Act.put, List.setIfInBounds_toArray, List.set_cons_zero, List.set_cons_succ, i64_w, i32_w]
    rfl
  refine done_ (by kernel_rfl) ?_
  have HB8 : Aside0 (Below w.heap.size w u8) := Aside0.mk (bl_on HB6.out hHeld HB6.out.size)
  have HS8 := Aside0.mk hs8
  have HGS : Aside0 (w.heap.size ≤ gs) := Aside0.mk (by exact Nat.le_trans HB6.out.size (Nat.le_trans hb7.size hgs))
  have HD8 : Aside0 (w.heap.size + 2 ≤ u8.heap.size ∧ gs < u8.heap.size) := Aside0.mk ⟨Nat.le_trans (Nat.le_trans (Nat.succ_le_of_lt (show w.heap.size + 1 < gm by have := HGE.out; omega)) (Nat.le_of_lt HN6.out.size)) hHeld.size, hs8.size⟩
  clear hgs hs8 hb8 hb7 hHeld HN6 HD6 HF6 HB6 HAD HBG HGE
  go_wp2
  go_loopw [13, 47] (fun vo vi wr => ∃ (i : Nat) (s : List Nat × List Nat) (bk bv : Nat) (l : List Nat), i ≤ 100 ∧ vi = .int .i64 (i : Int) ∧ Aside0 (Src wr gs bk bv s.1 s.2) ∧ Aside0 (NL wr u8.heap.size vo l) ∧ Aside0 (vo.ownBlock ≠ some bk ∧ vo.ownBlock ≠ some bv) ∧ Aside0 (runN many (100 - i) s l = R) ∧ Aside0 (l.length ≤ many) ∧ Aside0 (Below w.heap.size w wr) ∧ Aside0 (u8.heap.size ≤ wr.heap.size))
    (fun _ vi _ => 100 - (intOf vi).toNat)
  case atStart => exact ⟨0, S0, bk0, bv0, [], by omega, rfl, HS8, Aside0.mk (NL.nil _ _), Aside0.mk ⟨(fun e => by cases e), (fun e => by cases e)⟩, HRR, Aside0.mk (Nat.zero_le _), HB8, Aside0.mk (Nat.le_refl _)⟩
  case round =>
    clear HS8 HB8 HRR
    obtain ⟨i, s, bk, bv, l, hi, rfl, HSR, HO, HNE, HRR, HL, HW, HZ⟩ := hrel
    obtain ⟨A, c, rfl, hA⟩ := HO.out.slice
    obtain ⟨L, hL⟩ : ∃ L, L = l.length := ⟨_, rfl⟩
    have HO' : Aside0 (NL wr u8.heap.size (.slice A L c) l) := Aside0.mk (by rw [hL]; exact HO.out)
    have HNE' : Aside0 ((Value.slice A L c).ownBlock ≠ some bk ∧ (Value.slice A L c).ownBlock ≠ some bv) := Aside0.mk (by rw [hL]; exact HNE.out)
    rw [← hL]
    have HLL := Aside0.mk hL
    clear HO HNE hA
    by_cases hlm : L = many
    · have ER : R = l := runN_full HRR.out (by rw [← hL, hlm])
      have HLM := Aside0.mk hlm
      have t2 : (((L : Nat) : Int) == ((many : Nat) : Int)) = true := by rw [hlm]; simp
      have t3 : ¬ ((L : Nat) : Int) < ((many : Nat) : Int) := by rw [hlm]; exact Int.lt_irrefl _
      have HER := Aside0.mk ER
      clear hL ER hlm
      by_cases hlt : i < 100
      · have t1 : (i : Int) < 100 := by omega
        clear hlt hi
        go_wp2
        refine bodyPost_ret (v := .tuple #[.slice A L c, .nilIface]) (by simp [results, Try.results6, go_sem]) rfl ?_
        exact .inr ⟨by rw [HER.out, ← HLL.out, HLM.out], ⟨_, rfl, by rw [HER.out]; exact (HO'.out.lower (Nat.le_trans (Nat.le_add_right _ 2) HD8.out.1))⟩, HW.out⟩
      · have t1 : ¬ (i : Int) < 100 := by omega
        clear hlt hi
        go_wp2
        refine bodyPost_ret (v := .tuple #[.slice A L c, .nilIface]) (by simp [results, Try.results6, go_sem]) rfl ?_
        exact .inr ⟨by rw [HER.out, ← HLL.out, HLM.out], ⟨_, rfl, by rw [HER.out]; exact (HO'.out.lower (Nat.le_trans (Nat.le_add_right _ 2) HD8.out.1))⟩, HW.out⟩
    · have t2 : (((L : Nat) : Int) == ((many : Nat) : Int)) = false := by simp; omega
      have hl := HL.out
      by_cases hlt : i < 100
      · have t1 : (i : Int) < 100 := by omega
        have HST := Aside0.mk (runN_step HRR.out hlt (by rw [← hL]; exact hlm))
        have HNX : Aside0 (nxN s < N256) := Aside0.mk (nxN_lt s)
        have hnext := next_calls wr HSR.out
        have HLT : Aside0 (i < 100 ∧ L < many) := Aside0.mk ⟨hlt, by omega⟩
        have HMN : Aside0 (∀ u, Calls Try.prog 13 #[numV (nxN s)] u fun e w' => e = .returned (.bool (mayN (nxN s))) ∧ Below u.heap.size u w') := Aside0.mk (fun u => may_calls _ u HNX.out)
        have HXT : Aside0 (Calls Try.prog 17 #[.pointer (some ⟨gs, 0, none⟩)] wr fun e w' => e = .returned (numV (nxN s)) ∧ ∃ bk' bv', Src w' gs bk' bv' (nxS s).1 (nxS s).2 ∧ But wr.heap.size gs wr w' ∧ wr.heap.size ≤ bk' ∧ wr.heap.size ≤ bv') := Aside0.mk hnext
        clear hL hlm hlt hi hnext HRR hl
        generalize nxN s = n at *
        generalize mayN n = M at *
        generalize nxS s = s2 at *
        go_upto_region 11 with (first | ((with_reducible refine gate_callee (f := 17) rfl ?_); refine goesL_ (some 54) rfl rfl Try.func17 (by kernel_rfl) rfl #[.pointer (some ⟨gs, 0, none⟩)] rfl (by (try simp only [List.map_toArray, List.map_cons, List.map_nil]); first | done | rfl) ?_; (with_reducible refine (HXT.out).mono ?_); rintro e u9 ⟨rfl, bk9, bv9, hs9, hb9, hk9, hv9⟩; have HX9 := Aside0.mk (And.intro hs9 (And.intro hb9 (And.intro hk9 hv9))); clear hs9 hb9 hk9 hv9; refine ⟨_, rfl, ?_⟩) | ((with_reducible refine gate_dst (N := 14) rfl ?_); refine al_num rfl _ rfl rfl ?_; intro gm u10 egn hn10 hb10; have HX10 := Aside0.mk hb10; have HN10 := Aside0.mk hn10; have HGN : Aside0 (gm = u9.heap.size) := Aside0.mk egn; clear hn10 hb10 egn) | ((with_reducible refine gate_st (y := .tmp 54) rfl ?_); (try simp only [Act.put, List.setIfInBounds_toArray, List.set_cons_zero, List.set_cons_succ]); refine st_num HN10.out rfl _ _ rfl rfl rfl ?_; intro u11 hn11 hb11; have HN11 := Aside0.mk hn11; have HX11 := Aside0.mk hb11; clear hn11 hb11))
        clear t2 HXT
        have HGM : Aside0 (gs ≠ gm ∧ bk9 ≠ gm ∧ bv9 ≠ gm ∧ u8.heap.size ≤ gm ∧ wr.heap.size ≤ gm) := Aside0.mk (by have h1 := HX9.out.1.lt; have h2 := HX9.out.2.1.size; have h3 := HZ.out; rw [HGN.out]; omega)
        have HS11 : Aside0 (Src u11 gs bk9 bv9 s2.1 s2.2) := Aside0.mk ((HX9.out.1.on HX10.out).but HX11.out HGM.out.1 HGM.out.2.1 HGM.out.2.2.1)
        have HO11 : Aside0 (NL u11 u8.heap.size (.slice A L c) l) := Aside0.mk (((HO'.out.but HX9.out.2.1 (fun e => by have h1 := (HO'.out.own _ e).1; have h2 := HD8.out.2; omega)).on HX10.out).but HX11.out (fun e => by have h1 := (HO'.out.own _ e).2; have h2 := HGM.out; omega))
        have HNE11 : Aside0 ((Value.slice A L c).ownBlock ≠ some bk9 ∧ (Value.slice A L c).ownBlock ≠ some bv9) := Aside0.mk ⟨fun e => by have h1 := (HO'.out.own _ e).2; have h2 := HX9.out.2.2; omega, fun e => by have h1 := (HO'.out.own _ e).2; have h2 := HX9.out.2.2; omega⟩
        have HW11 : Aside0 (Below w.heap.size w u11) := Aside0.mk (bl_but (bl_on (bl_but HW.out HX9.out.2.1 HW.out.size HGS.out) HX10.out (Nat.le_trans HW.out.size HX9.out.2.1.size)) HX11.out (Nat.le_trans (Nat.le_trans HW.out.size HX9.out.2.1.size) HX10.out.size) (Nat.le_trans HW.out.size HGM.out.2.2.2.2))
        have HZ11 : Aside0 (u8.heap.size ≤ u11.heap.size) := Aside0.mk (Nat.le_trans HZ.out (Nat.le_trans HX9.out.2.1.size (Nat.le_trans HX10.out.size HX11.out.size)))
        clear HX9 HX10 HX11 HN10 HGN HSR HO' HNE' HW HZ
        cases M
        · go_wp2_with (first | ((with_reducible refine gate_dst (N := 55) rfl ?_); refine ld_num (HN11.out.range) rfl _ rfl rfl ?_) | ((with_reducible refine gate_callee (f := 13) rfl ?_); refine goesL_ (some 56) rfl rfl Try.func13 (by kernel_rfl) rfl #[numV n] rfl (by (try simp only [List.map_toArray, List.map_cons, List.map_nil]); first | done | rfl) ?_; (with_reducible refine (HMN.out _).mono ?_); rintro e u12 ⟨rfl, hb12⟩; have HX12 := Aside0.mk hb12; clear hb12; refine ⟨_, rfl, ?_⟩))
          exact ⟨⟨i + 1, s2, bk9, bv9, l, HLT.out.1, by rw [Int.natCast_add]; rfl, Aside0.mk (HS11.out.on HX12.out), Aside0.mk (HO11.out.on HX12.out), HNE11, HST, Aside0.mk HL.out, Aside0.mk (bl_on HW11.out HX12.out HW11.out.size), Aside0.mk (Nat.le_trans HZ11.out HX12.out.size)⟩, meas100 HLT.out.1⟩
        · go_wp2_with (first | ((with_reducible refine gate_dst (N := 55) rfl ?_); refine ld_num (HN11.out.range) rfl _ rfl rfl ?_) | ((with_reducible refine gate_callee (f := 13) rfl ?_); refine goesL_ (some 56) rfl rfl Try.func13 (by kernel_rfl) rfl #[numV n] rfl (by (try simp only [List.map_toArray, List.map_cons, List.map_nil]); first | done | rfl) ?_; (with_reducible refine (HMN.out _).mono ?_); rintro e u12 ⟨rfl, hb12⟩; have HX12 := Aside0.mk hb12; clear hb12; refine ⟨_, rfl, ?_⟩) | ((with_reducible refine gate_dst (N := 58) rfl ?_); refine ld_num ((HN11.out.on HX12.out).range) rfl _ rfl rfl ?_) | ((with_reducible refine gate_dst (N := 59) rfl ?_); refine bs_num rfl _ rfl (.tmp 58) rfl rfl ?_; intro gr u13 egr hn13 hb13; have HX13 := Aside0.mk hb13; have HN13 := Aside0.mk hn13; have HGR : Aside0 (gr = u12.heap.size) := Aside0.mk egr; clear hn13 hb13 egr) | ((with_reducible refine gate_dst (N := 60) rfl ?_); refine ap_num (n := n) (gn := gr) (v := .slice A L c) (l := l) (base := u8.heap.size) ((HO11.out.on HX12.out).on HX13.out) HN13.out (Nat.le_trans HZ11.out (Nat.le_trans HX12.out.size HX13.out.size)) (by have h1 := HLT.out; have h2 := HMY.out; have h3 := HLL.out; omega) rfl _ _ rfl rfl rfl ?_; intro gl cl ml u14 ho14 hg14 hw14; have HO14 := Aside0.mk ho14; have HG14 := Aside0.mk hg14; have HE14 := Aside0.mk hw14; clear ho14 hg14 hw14))
          have HS13 : Aside0 (Src u13 gs bk9 bv9 s2.1 s2.2) := Aside0.mk ((HS11.out.on HX12.out).on HX13.out)
          have HO13 : Aside0 (NL u13 u8.heap.size (.slice A L c) l) := Aside0.mk ((HO11.out.on HX12.out).on HX13.out)
          have HW13 : Aside0 (Below w.heap.size w u13) := Aside0.mk (bl_on (bl_on HW11.out HX12.out HW11.out.size) HX13.out (Nat.le_trans HW11.out.size HX12.out.size))
          have HZ13 : Aside0 (u8.heap.size ≤ u13.heap.size) := Aside0.mk (Nat.le_trans HZ11.out (Nat.le_trans HX12.out.size HX13.out.size))
          exact ⟨⟨i + 1, s2, bk9, bv9, l ++ [n], HLT.out.1, by rw [Int.natCast_add]; rfl, Aside0.mk (HS13.out.grown HG14.out (fun e => by have h1 := (HO13.out.own _ e).1; have h2 := HD8.out.2; omega) HNE11.out.1 HNE11.out.2), HO14, Aside0.mk (by
            have h3 := HS13.out.lt
            rcases HE14.out with h1 | h1
            · have h2 := HNE11.out
              rw [h1] at h2
              exact h2
            · exact ⟨fun e => by injection e with e; have e : gl = bk9 := e; omega, fun e => by injection e with e; have e : gl = bv9 := e; omega⟩), HST, Aside0.mk (by have h1 := HLT.out.2; have h2 := HLL.out; rw [List.length_append]; show l.length + 1 ≤ many; omega), Aside0.mk (HW13.out.trans (grown_below HG14.out (fun q hq => Nat.le_trans (Nat.le_trans (Nat.le_add_right _ 2) HD8.out.1) (HO13.out.own q hq).1) HW13.out.size)), Aside0.mk (Nat.le_trans HZ13.out HG14.out.size)⟩, meas100 HLT.out.1⟩
      · have hi' : i = 100 := by omega
        subst hi'
        have ER : R = l := HRR.out.symm
        have HER := Aside0.mk ER
        have t3 : ((L : Nat) : Int) < ((many : Nat) : Int) := by omega
        have HLT : Aside0 (L < many) := Aside0.mk (by omega)
        clear hlt hi hL hlm ER t2 hl
        go_wp2
        refine bodyPost_ret (v := .tuple #[.slice none 0 0, .iface 34 (.int .i64 4)]) (by simp [results, Try.results6, go_sem]) rfl ?_
        exact .inl ⟨⟨by rw [HER.out, ← HLL.out]; exact HLT.out, rfl⟩, HW.out⟩
end Go.Proofs.Ytojlhmmmiebbmaa.PNonceLists
namespace Go.Proofs.Ytojlhmmmiebbmaa.PNonceLists
open Go.RowKit Go.Proofs.Ytojlhmmmiebbmaa Go.Proofs.YtojlhmmmiebbmaaW.PrintWords Go.Proofs.YtojlhmmmiebbmaaW.PrintLast Go.Proofs.YtojlhmmmiebbmaaW.PrintMore Go.Proofs.Ytojlhmmmiebbmaa.Sha Go.Proofs.Ytojlhmmmiebbmaa.Arr
attribute [local go_sem] max2_int min2_int max_two min_two max_three min_three max_four min_four
set_option linter.unusedVariables false
set_option linter.unusedSimpArgs false
end Go.Proofs.Ytojlhmmmiebbmaa.PNonceLists
namespace Go.Proofs.Ytojlhmmmiebbmaa.PNonceLists
open Go.RowKit Go.Proofs.Ytojlhmmmiebbmaa Go.Proofs.YtojlhmmmiebbmaaW.PrintWords Go.Proofs.YtojlhmmmiebbmaaW.PrintLast Go.Proofs.YtojlhmmmiebbmaaW.PrintMore Go.Proofs.Ytojlhmmmiebbmaa.Sha Go.Proofs.Ytojlhmmmiebbmaa.Arr
attribute [local go_sem] max2_int min2_int max_two min_two max_three min_three max_four min_four
set_option linter.unusedVariables false
set_option linter.unusedSimpArgs false
theorem meas_i {t n : Nat} (h : t < n) : n - (intOf (.int .i64 ((t : Int) + 1))).toNat < n - (intOf (.int .i64 (t : Int))).toNat := by simp [intOf]; omega
end Go.Proofs.Ytojlhmmmiebbmaa.PNonceLists
namespace Go.Proofs.Ytojlhmmmiebbmaa.PNonceLists
open Go.RowKit Go.Proofs.Ytojlhmmmiebbmaa Go.Proofs.YtojlhmmmiebbmaaW.PrintWords Go.Proofs.YtojlhmmmiebbmaaW.PrintLast Go.Proofs.YtojlhmmmiebbmaaW.PrintMore Go.Proofs.Ytojlhmmmiebbmaa.Sha Go.Proofs.Ytojlhmmmiebbmaa.Arr
attribute [local go_sem] max2_int min2_int max_two min_two max_three min_three max_four min_four
set_option linter.unusedVariables false
set_option linter.unusedSimpArgs false
def samp : List Nat := [115, 97, 109, 112, 108, 101]
def kEx : Nat := 0xa6e3c57dd01abe90086538398355dd4c3b17aa873382b0f24d6129493d8aad60
theorem cand_ex : candN secN (beN (sum samp) % nN) 1 = [kEx] := by decide +kernel
theorem sum_len (x : List Nat) : (sum x).length = 32 := rfl
theorem may_sec : mayN secN = true := by decide +kernel
theorem C_const (w : World) (C : List Nat) (t : TypeId) (fr : Nat × Nat) (hl : C.length ≤ 9223372036854775807) : Kd.C (Kd.int .u8) (w.alloc (.cells (ints .u8 (cN C)).toArray t fr)) (some ⟨w.heap.size, 0, none⟩) (cN C).length (cN C) :=
  Kd.C_of_reads (enc := Value.int .u8) (d := (0 : Int)) (h1 := fun _ => rfl) ⟨rfl, by rw [cN_length]; exact hl, fun _ => ⟨_, rfl, fun j hj => marked3 w _ t fr j _ (by rw [List.getElem?_toArray, ints_get _ _ _ hj]; unfold rd; rw [Int.toNat_natCast])⟩⟩
theorem run_letter {P : Program} {ops : Array Oper} {rest : List Oper} {o : Oper} {a : Act} {w : World} {Q : Exit → Act → World → Prop} (hg : o.guard = none) (dst : Option Tmp) (hd : o.dst = dst) (v : Value) (w1 : World) (hrun : (execOp a.eval o).run P w = .ok (.value v) w1) (h : ∀ w2, w2 = w1 → wpList P ops Q rest (a.put dst v) w2) : wpList P ops Q (o :: rest) a w :=
  Go.Great.wpList_runTo hg dst hd v w1 hrun (h w1 rfl)
/-- the example's list -/
theorem list_ex (u : World) : Calls Try.prog 6 #[numV secN, .agg (ints .u8 (cN (sum samp))).toArray, .int .i64 1] u fun e w' => ∃ g c, e = .returned (.tuple #[.slice (some ⟨g, 0, none⟩) 1 c, .nilIface]) ∧ w'.rangeAt g 0 (nw kEx) ∧ Below u.heap.size u w' :=
  (list_calls secN (sum samp) 1 u secN_lt (sum_len samp) (sum_bs samp) may_sec (by decide)).mono (fun e w' h => by
    rw [cand_ex] at h
    rcases h with ⟨⟨h, _⟩, _⟩ | ⟨_, ⟨v, he, hN⟩, hb⟩
    · exact absurd h (by decide)
    · obtain ⟨A, c, rfl, _⟩ := hN.slice
      obtain ⟨g, rfl, hr⟩ := hN.range (i := 0) (x := kEx) rfl
      exact ⟨g, c, he, hr, hb⟩)
theorem kEx_lt : kEx < N256 := by decide +kernel
set_option maxRecDepth 100000 in
set_option maxHeartbeats 8000000 in
theorem up6_calls (w : World) : Calls Try.prog 5 #[] w fun e w' => e = .returned (.bool true) ∧ Below w.heap.size w w' := by
  have kc := fun (w : World) (C : Array Value) (n c : Nat) => Lib.run_convert_bytes_const (P := Try.prog) w 40 5 C n c rfl rfl
  have HSE := Aside0.mk (fun u => secret_calls u)
  have HLS := Aside0.mk (fun u => list_ex u)
  have HSU : Aside0 (∀ u A, Kd.C (Kd.int .u8) u A (cN samp).length (cN samp) → Calls Try.prog 10 #[.slice A 6 6] u fun e w' => e = .returned (.agg (ints .u8 (cN (sum samp))).toArray) ∧ Below u.heap.size u w') := Aside0.mk (fun u A hC => sum_calls A 6 samp u hC (bs_of_mem (by decide)) (by decide))
  have hk := num_lit kEx 5575783208203234656 4258059470363603186 604951544618933580 12025672574162353808 (by decide +kernel)
  have heq := fun w => eql_num kEx_lt kEx_lt w
  have HEQ : ∀ w : World, (binOp .eql 24 (numV kEx) (.agg #[.int .u64 5575783208203234656, .int .u64 4258059470363603186, .int .u64 604951544618933580, .int .u64 12025672574162353808])).run Try.prog w = .ok (.bool true) w := fun w => by
    have h := heq w
    rw [decide_eq_true rfl] at h
    rw [← h]
    exact congrArg (fun x => (binOp .eql 24 (numV kEx) x).run Try.prog w) hk
  have HGQ : ∀ (w : World) (x y : Operand), (eqGuard .eql 24 x y (numV kEx) (.agg #[.int .u64 5575783208203234656, .int .u64 4258059470363603186, .int .u64 604951544618933580, .int .u64 12025672574162353808])).run Try.prog w = .ok () w := fun w x y => by
    have h := eqg_num .eql x y kEx kEx w
    rw [← h]
    exact congrArg (fun z => (eqGuard .eql 24 x y (numV kEx) z).run Try.prog w) hk
  obtain ⟨ds, hds⟩ : ∃ ds, ds = sum samp := ⟨_, rfl⟩
  rw [← hds] at HLS HSU
  generalize secN = sn at *
  generalize kEx = kx at *
  clear hk heq hds
  go_enter Try.func5, Try.ntmps5
  go_upto_region 2 with (first
    | ((with_reducible refine gate_callee (f := 9) rfl ?_); refine goesL_ (some 4) rfl rfl Try.func9 (by kernel_rfl) rfl #[] rfl (by (try simp only [List.map_toArray, List.map_cons, List.map_nil]); first | done | rfl) ?_; (with_reducible refine (HSE.out _).mono ?_); rintro e u4 ⟨rfl, hb4⟩; have HX4 := Aside0.mk hb4; clear hb4; refine ⟨_, rfl, ?_⟩)
    | ((with_reducible refine gate_dst (N := 5) rfl ?_); refine Go.Great.wpList_runTo rfl (some 5) rfl (.slice (some ⟨u4.heap.size, 0, none⟩) 6 6) (u4.alloc (.cells #[.int .u8 115, .int .u8 97, .int .u8 109, .int .u8 112, .int .u8 108, .int .u8 101] 5)) (by simp only [Act.put, List.setIfInBounds_toArray, List.set_cons_zero, List.set_cons_succ]; go_simp) ?_)
    | ((with_reducible refine gate_dst (N := 6) rfl ?_); refine run_letter rfl (some 6) rfl (.slice (some ⟨u4.heap.size, 0, none⟩) 6 6) (u4.alloc (.cells #[.int .u8 115, .int .u8 97, .int .u8 109, .int .u8 112, .int .u8 108, .int .u8 101] 5 (6, 7))) (by simp only [Act.put, List.setIfInBounds_toArray, List.set_cons_zero, List.set_cons_succ]; go_simp) ?_; intro u6 e6; have HC6 : Aside0 (Kd.C (Kd.int .u8) u6 (some ⟨u4.heap.size, 0, none⟩) (cN samp).length (cN samp)) := Aside0.mk (by rw [e6]; exact C_const u4 samp 5 (6, 7) (by decide)); have HX6 : Aside0 (Below u4.heap.size u4 u6) := Aside0.mk (by rw [e6]; exact below_alloc (Below.refl _ _) _); clear e6)
    | ((with_reducible refine gate_callee (f := 10) rfl ?_); refine goesL_ (some 7) rfl rfl Try.func10 (by kernel_rfl) rfl #[.slice (some ⟨u4.heap.size, 0, none⟩) 6 6] rfl (by (try simp only [List.map_toArray, List.map_cons, List.map_nil]); first | done | rfl) ?_; (with_reducible refine (HSU.out _ _ HC6.out).mono ?_); rintro e u7 ⟨rfl, hb7⟩; have HX7 := Aside0.mk hb7; clear hb7; refine ⟨_, rfl, ?_⟩)
    | ((with_reducible refine gate_callee (f := 6) rfl ?_); refine goesL_ (some 8) rfl rfl Try.func6 (by kernel_rfl) rfl #[numV sn, .agg (ints .u8 (cN ds)).toArray, .int .i64 1] rfl (by (try simp only [List.map_toArray, List.map_cons, List.map_nil]); first | done | rfl) ?_; (with_reducible refine (HLS.out _).mono ?_); rintro e u8 ⟨gl, cl, rfl, hr8, hb8⟩; have HX8 := Aside0.mk hb8; have HR8 := Aside0.mk hr8; clear hb8 hr8; refine ⟨_, rfl, ?_⟩))
  have hB : Below w.heap.size w u8 := (((HX4.out.trans (HX6.out.mono HX4.out.size)).trans (HX7.out.mono (Nat.le_trans HX4.out.size HX6.out.size))).trans (HX8.out.mono (Nat.le_trans (Nat.le_trans HX4.out.size HX6.out.size) HX7.out.size)))
  have HB := Aside0.mk hB
  clear hB HX4 HX6 HX7 HX8
  go_wp2_with (first | ((with_reducible refine gate_dst (N := 21) rfl ?_); refine ld_numG (HR8.out) (by rfl) _ rfl rfl ?_))
  go_ret
  exact ⟨rfl, HB.out⟩
end Go.Proofs.Ytojlhmmmiebbmaa.PNonceLists
namespace Go.Proofs.Ytojlhmmmiebbmaa.PNonceLists
open Go.RowKit Go.Proofs.Ytojlhmmmiebbmaa Go.Proofs.YtojlhmmmiebbmaaW.PrintWords Go.Proofs.YtojlhmmmiebbmaaW.PrintLast Go.Proofs.YtojlhmmmiebbmaaW.PrintMore Go.Proofs.Ytojlhmmmiebbmaa.Sha Go.Proofs.Ytojlhmmmiebbmaa.Arr
attribute [local go_sem] max2_int min2_int max_two min_two max_three min_three max_four min_four
attribute [local go_sem high] eqg_num
set_option linter.unusedVariables false
set_option linter.unusedSimpArgs false
theorem cand_all (d q many : Nat) : ∀ x ∈ candN d q many, mayN x = true := runN_all (fun x => mayN x = true) many 100 _ [] (fun x hx => by cases hx) (fun x hx => hx)
theorem may_lt {x : Nat} (h : mayN x = true) : x < N256 := by
  unfold mayN at h
  have h2 := (decide_eq_true_eq.mp h).2
  exact Nat.lt_trans h2 nN_lt
/-- what nonce.List answers, of short lists and of full ones -/
theorem list_short (d : Nat) (h : List Nat) (many : Nat) (w : World) (hd : d < N256) (hh : h.length = 32) (hbs : Bs h) (hmay : mayN d = true) (hm : many ≤ 16) (hs : (candN d (beN h % nN) many).length < many) :
    Calls Try.prog 6 #[numV d, digV h, .int .i64 (many : Int)] w fun e w' => e = .returned (.tuple #[.slice none 0 0, .iface 34 (.int .i64 4)]) ∧ Below w.heap.size w w' :=
  (list_calls d h many w hd hh hbs hmay hm).mono (fun e w' h => by
    rcases h with ⟨⟨_, h⟩, h2⟩ | ⟨h, _⟩
    · exact ⟨h, h2⟩
    · omega)
theorem list_full (d : Nat) (h : List Nat) (many : Nat) (w : World) (hd : d < N256) (hh : h.length = 32) (hbs : Bs h) (hmay : mayN d = true) (hm : many ≤ 16) (hs : (candN d (beN h % nN) many).length = many) :
    Calls Try.prog 6 #[numV d, digV h, .int .i64 (many : Int)] w fun e w' => ∃ A c, e = .returned (.tuple #[.slice A many c, .nilIface]) ∧ NL w' w.heap.size (.slice A many c) (candN d (beN h % nN) many) ∧ Below w.heap.size w w' :=
  (list_calls d h many w hd hh hbs hmay hm).mono (fun e w' h => by
    rcases h with ⟨⟨h, _⟩, h2⟩ | ⟨_, ⟨v, h, hN⟩, hb⟩
    · omega
    · obtain ⟨A, c, rfl, _⟩ := hN.slice
      rw [hs] at h hN
      exact ⟨A, c, h, hN, hb⟩)
theorem list_errA (d : Nat) (h : List Nat) (many : Int) (w : World) (hd : d < N256) (hh : h.length = 32) (hbad : ¬(mayN d = true ∧ 0 ≤ many ∧ many ≤ 16)) :
    Calls Try.prog 6 #[numV d, digV h, .int .i64 many] w fun e w' => e = .returned (.tuple #[.slice none 0 0, .iface 34 (.int .i64 1)]) ∧ Below w.heap.size w w' :=
  list_bad d h many w hd hh hbad
theorem neq_same {x : Nat} (hx : x < N256) (w : World) : (binOp .neq 24 (numV x) (numV x)).run Try.prog w = .ok (.bool false) w := by
  rw [neq_num hx hx w]
  simp
end Go.Proofs.Ytojlhmmmiebbmaa.PNonceLists
