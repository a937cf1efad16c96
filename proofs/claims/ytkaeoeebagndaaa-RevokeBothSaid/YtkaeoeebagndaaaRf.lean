/- revoke.Parse: the loop over the rows. -/
import Derived.Test.YtkaeoeebagndaaaRe
namespace Go.Proofs.Ytkaeoeebagndaaa.PRevokeBoth
open Go.RowKit Go.Shelf Go.Proofs.YtkaeoeebagndaaaW.PrintWords Go.Proofs.YtkaeoeebagndaaaW.PrintLast Go.Proofs.YtkaeoeebagndaaaW.PrintMore
attribute [local go_sem] Oper.semAt_some max2_int min2_int errW_none errW_some
attribute [local go_sem high] u8_w cast_tmod eql_code neq_code eql_code_nil neq_code_nil eql_nil_code neq_nil_code
set_option linter.unusedVariables false
set_option linter.unusedSimpArgs false
/-- the rows told, as far as they are good -/
def goods {N : Nat} (r : Nat → Option (S43)) (pre : List (Ix N)) : List (S43) := pre.filterMap fun i => r i.1
theorem goods_snoc {N : Nat} (r : Nat → Option (S43)) (pre : List (Ix N)) (i : Ix N) (y : S43) (h : r i.1 = some y) : goods r (pre ++ [i]) = goods r pre ++ [y] := by simp [goods, h]
theorem goods_len {N : Nat} (r : Nat → Option (S43)) (pre : List (Ix N)) : (goods r pre).length ≤ pre.length := List.length_filterMap_le _ _
theorem info_rv : (Try.prog.info? 43).map (fun i => (i.zero, i.size, i.bytes)) = some (some (.agg #[(.int .i64 0), (.int .i64 0)]), 2, 16) := by kernel_rfl
theorem ownsRow_set {W : World} {B : Nat} {t e : TypeId} {u v' v : Value} {base size k : Nat} {xs : List Value} (hb : Boxed W B t u) (hte : t ≠ e) (h : W.ownsRow base e size v k xs) : (W.setCell ⟨B, 0, none⟩ v').ownsRow base e size v k xs := h.kept (grownBy_setCell' W B v') (.inr (hb.not_row hte h).symm)
theorem own_base {W : World} {e : TypeId} {v : Value} {b b' size k : Nat} {xs : List Value} (h : W.ownsRow b e size v k xs) (hb : b' ≤ b) : W.ownsRow b' e size v k xs := by
  refine ⟨h.1, ?_⟩
  rcases h.2 with q | ⟨g, cap, cur, e1, h1, q⟩
  · exact .inl q
  · exact .inr ⟨g, cap, cur, e1, Nat.le_trans hb h1, q⟩
theorem news2 (W : World) (T : TypeId) (x y : Value) : ∀ (j : Nat) (u : Value), [x, y][j]? = some u → (W.alloc (.cells #[x, y] T)).cell? ((⟨W.heap.size, 0, none⟩ : Addr).add j) = some u
  | 0, u, hj => by cases hj; exact World.cell?_alloc_new W _ T 0
  | 1, u, hj => by cases hj; exact World.cell?_alloc_new W _ T 1
  | j + 2, u, hj => by simp at hj
set_option maxRecDepth 100000 in
set_option maxHeartbeats 8000000 in
theorem parse_good (k : Nat) (A0 : Option Addr) (c0 : Nat) (l0 : List Int) (x : S48) (w : World) (hr0 : Kd.C (Kd.int .u8) w A0 l0.length l0) (hc0 : l0.length ≤ c0) (h : tlv_Get.f k l0 = some ([x], none)) (hl : x.f0 = 1) (N : Nat) (hN : x.f1.length = 16 * N) (hN2 : N ≤ 6250)
    (r : Nat → Option (S43)) (hr : ∀ i, i < N → rowAt k x.f1 i = some (r i)) (r1 : List (S43)) (r2 : Option Int)
    (hbad : (∃ i, i < N ∧ r i = none) → r1 = [] ∧ r2 = some 2) (hgood : ∀ out : List (S43), out.map some = (List.range N).map r → ∃ t, revoke_May.f k out = some t ∧ (t = true → r1 = out ∧ r2 = none) ∧ (t = false → r1 = [] ∧ r2 = some 2)) :
    Calls Try.prog 16 #[.slice A0 l0.length c0] w fun e w' => ∃ v0_ : Value, e = .returned (.tuple #[v0_, errW r2]) ∧ Kd.R k43 43 w' w.heap.size (fun _ => True) v0_ r1 ∧ Below w.heap.size w w' := by
  obtain ⟨i0, hi, hz0, hz1, hz2⟩ := info_parts info_rv
  have hl2 : (((x.f1.length : Int) % 16) != 0) = false := by simp; omega
  refine (callsIn_wide (n := 6)).1 ?_
  refine callsIn_of_wp_marks Try.func16 rfl trivial ?_ rfl
  simp only [Try.ntmps16, List.size_toArray, List.length_cons, List.length_nil, Nat.reduceAdd, Nat.reduceSub, Array.replicate_succ, Array.replicate_zero, List.push_toArray, List.append_toArray, List.nil_append, List.cons_append]
  gi_wp2_with (first
    | (refine ⟨trivial, ?_⟩; gi_at_call 25; refine (callsIn_wide.2 (tlv_Get.calls k A0 c0 l0 [x] none _ (Kd.C_alloc (Kd.C_alloc hr0 _) _) hc0 h)).mono ?_; rintro e w1 ⟨v, rfl, hS, hb⟩; have b2 : Boxed w1 w.heap.size 22 (.slice none 0 0) := (hb.block _ (by simp; omega)).trans ((Boxed.new w 22 (.slice none 0 0)).alloc _); have b3 : Boxed w1 (w.heap.size + 1) 25 .nilIface := (hb.block _ (by simp)).trans (by have := Boxed.new (w.alloc (.cells #[.slice none 0 0] 22)) 25 .nilIface; rw [World.size_alloc] at this; exact this); have c2 := b2.cell; have f2 := b2.frozen; have c3 := b3.cell; have f3 := b3.frozen; obtain ⟨g, cp, rfl, hg1, hg2, _⟩ := Kd.S_form hS (by simp); obtain ⟨cs_, hcl, hM, hcs⟩ := Kd.S_get hS z48 0 (by decide) (by simp); obtain ⟨vb, rfl, hvb⟩ := k48_openM hM; obtain ⟨A1, c1, rfl, hc1, hCx⟩ := Kd.R_reads (show (Kd.int .u8).R 5 w1 _ _ vb x.f1 from hvb); have hx0 : w1.cell? ⟨g, 0, none⟩ = some (.int .i64 1) := (by rw [← hl]; exact hcs 0 _ rfl); have hx1 : w1.cell? ⟨g, 1, none⟩ = some (.slice A1 x.f1.length c1) := hcs 1 _ rfl; have hx2 : (w1.alloc (.cells #[.slice none 0 0] 22)).cell? ⟨g, 1, none⟩ = some (.slice A1 x.f1.length c1) := (World.cell?_alloc_lt _ _ _ hg2).trans hx1; have hA1 : 0 < N → ∃ b, A1 = some ⟨b, 0, none⟩ := (fun hp => by obtain ⟨q, qc, hq, _⟩ := Kd.R_form (show (Kd.int .u8).R 5 w1 _ _ _ x.f1 from hvb) (by omega); injection hq with hq1 _ _; exact ⟨q, hq1⟩))
    | (refine ⟨trivial, ?_⟩; gi_at_call 26; refine (chunk_in Fence.wide _ trivial rfl A1 (16 * N) c1 _).mono ?_; rintro e w2 ⟨rfl, rfl⟩))
  have hBL : Below w1.heap.size w1 (((w1.alloc (.cells #[.slice none 0 0] 22)).alloc (.cells #[.slice A1 (16 * N) c1] 32)).alloc (.cells #[.int .i64 16] 3)) := (((Below.refl _ w1).alloc (Nat.le_refl _) _).alloc (by simp) _).alloc (by simp; omega) _
  have bO := ((Boxed.new w1 22 (.slice none 0 0)).alloc (.cells #[.slice A1 (16 * N) c1] 32)).alloc (.cells #[.int .i64 16] 3)
  have bS := (Boxed.new (w1.alloc (.cells #[.slice none 0 0] 22)) 32 (.slice A1 (16 * N) c1)).alloc (.cells #[.int .i64 16] 3)
  have bC := Boxed.new ((w1.alloc (.cells #[.slice none 0 0] 22)).alloc (.cells #[.slice A1 (16 * N) c1] 32)) 3 (.int .i64 16)
  have hsz : (((w1.alloc (.cells #[.slice none 0 0] 22)).alloc (.cells #[.slice A1 (16 * N) c1] 32)).alloc (.cells #[.int .i64 16] 3)).heap.size = w1.heap.size + 3 := by simp
  rw [World.size_alloc] at bS
  rw [World.size_alloc, World.size_alloc] at bC
  obtain ⟨wL, hwL⟩ : ∃ W0, (((w1.alloc (.cells #[.slice none 0 0] 22)).alloc (.cells #[.slice A1 (16 * N) c1] 32)).alloc (.cells #[.int .i64 16] 3)) = W0 := ⟨_, rfl⟩
  rw [hwL] at hBL bO bS bC hsz ⊢
  clear hwL hx2
  obtain ⟨b, hAb⟩ : ∃ b, 0 < N → A1 = some ⟨b, 0, none⟩ := by
    by_cases hp : 0 < N
    · obtain ⟨b, e⟩ := hA1 hp
      exact ⟨b, fun _ => e⟩
    · exact ⟨0, fun q => absurd q hp⟩
  have hB0 : Below w.heap.size w w1 := (((Below.refl _ w).alloc (Nat.le_refl _) _).alloc (by simp) _).trans (hb.mono (by simp; omega))
  have hw1 : w.heap.size + 2 ≤ w1.heap.size := by have := hb.size; simp at this; omega
  refine wpIn_rangeFunc_ownG rfl (by omega) (gf := 33) (lb := #[.pointer (some ⟨w1.heap.size + 1, 0, none⟩), .pointer (some ⟨w1.heap.size + 1 + 1, 0, none⟩)]) rfl trivial (enters_of Try.func33 (by kernel_rfl) rfl)
    (chunk_stops Fence.wide _ trivial rfl (by omega) (w1.heap.size + 1) (w1.heap.size + 1 + 1) b 0 N c1 A1 hAb (by omega) (by omega) wL (fun W W' => Below w1.heap.size W W' ∧ W'.heap[w1.heap.size + 1]? = W.heap[w1.heap.size + 1]? ∧ W'.heap[w1.heap.size + 1 + 1]? = W.heap[w1.heap.size + 1 + 1]?)
      (fun V V' hk => World.cell?_of_block (a := ⟨w1.heap.size + 1, 0, none⟩) hk.2.1) (fun V V' hk => World.cell?_of_block (a := ⟨w1.heap.size + 1 + 1, 0, none⟩) hk.2.2) (by omega) (by omega) bS.cell bC.cell)
    (fun h k => ⟨h.1.trans k.1, k.2.1.trans h.2.1, k.2.2.trans h.2.2⟩)
    (fun W l o o' hl hk e1 e2 => ⟨belowK_b (w := wL) (by omega) W l o o' hl hk e1 e2, World.putObj_heap_other (by omega), World.putObj_heap_other (by omega)⟩) (Below.refl _ _) (fun _ => rfl)
    (fun pre W => (∃ v, Boxed W w1.heap.size 22 v ∧ W.ownsRow w1.heap.size 43 2 v (goods r pre).length (rcells (goods r pre)) ∧ (goods r pre).map some = pre.map fun i => r i.1) ∧ (Boxed W (w1.heap.size + 1) 32 (.slice A1 (16 * N) c1) ∧ (Boxed W (w1.heap.size + 1 + 1) 3 (.int .i64 16) ∧ Below w1.heap.size w1 W)))
    (fun c pre W => c = .ret ∧ (∃ i, i ∈ pre ∧ r i.1 = none) ∧ Boxed W w.heap.size 22 (.slice none 0 0) ∧ Boxed W (w.heap.size + 1) 25 (.iface 29 (.int .i64 2)) ∧ Below w.heap.size w W)
    (OwnFrom.and (Own.from (holdsRow_own w1.heap.size w1.heap.size 22 43 2 (fun pre => (goods r pre).length) (fun pre => rcells (goods r pre)) (fun pre v => (goods r pre).map some = pre.map fun i => r i.1)) _)
      (OwnFrom.and (Own.from (boxed_own _ _ (fun _ => .slice A1 (16 * N) c1)) _) (OwnFrom.and (Own.from (boxed_own _ _ (fun _ => .int .i64 16)) _) (ownFrom_below (Nat.le_refl _) (by omega)))))
    (fun c s X Y row hs hg hrow => ⟨hs.1, hs.2.1, hs.2.2.1.kept hg (fun q => by have := (hrow _ q.symm).1; omega), hs.2.2.2.1.kept hg (fun q => by have := (hrow _ q.symm).1; omega), hs.2.2.2.2.grown hg hs.2.2.2.2.size (fun k q => by have := (hrow _ q).1; omega)⟩)
    ⟨⟨_, bO, World.ownsRow_nil _ _ _ _, rfl⟩, bS, bC, hBL⟩
    ?a1 ?assign ?body ?done ?stop
  case assign =>
    intro l y W K hK
    gi_wp2
    exact hK
  case body =>
    rintro l pre i W ⟨⟨v, hv, hrow, hG⟩, hbs, hbc, hBW⟩ hlt
    have b2W : Boxed W w.heap.size 22 (.slice none 0 0) := (hBW.block _ (by omega)).trans b2
    have b3W : Boxed W (w.heap.size + 1) 25 .nilIface := (hBW.block _ (by omega)).trans b3
    obtain ⟨⟨a1, er1⟩, hs1, hq⟩ := Option.bind_eq_some_iff.1 (hr i.1 i.2)
    obtain ⟨⟨a2, er2⟩, hs2, hq⟩ := Option.bind_eq_some_iff.1 hq
    have hq := Option.some.inj hq
    have hi2 := i.2
    have hA := hAb (by omega)
    have KO1 : ∀ V, Below W.heap.size W V → Calls Try.prog 27 #[.slice (some ⟨b, 16 * i.1, none⟩) 8 16] V fun e V' => e = .returned (.tuple #[.int .i64 a1, errW er1]) ∧ Drawn0 V V' := fun V hV => by
      have hC := C_part (Kd.C_below hCx (hBW.trans (hV.mono hBW.size))) hA (16 * i.1) 8 (by omega)
      have hn : ((x.f1.drop (16 * i.1)).take 8).length = 8 := by rw [List.length_take, List.length_drop]; omega
      have h := tlv_Of.calls k (some ⟨b, 0 + 16 * i.1, none⟩) 16 _ a1 er1 V hC (by rw [hn]; decide) hs1
      rw [hn, Nat.zero_add] at h
      exact h
    have KO2 : ∀ V, Below W.heap.size W V → Calls Try.prog 27 #[.slice (some ⟨b, 16 * i.1 + 8, none⟩) 8 8] V fun e V' => e = .returned (.tuple #[.int .i64 a2, errW er2]) ∧ Drawn0 V V' := fun V hV => by
      have hC := C_part (Kd.C_below hCx (hBW.trans (hV.mono hBW.size))) hA (16 * i.1 + 8) 8 (by omega)
      have hn : ((x.f1.drop (16 * i.1 + 8)).take 8).length = 8 := by rw [List.length_take, List.length_drop]; omega
      have h := tlv_Of.calls k (some ⟨b, 0 + (16 * i.1 + 8), none⟩) 8 _ a2 er2 V hC (by rw [hn]; decide) hs2
      rw [hn, Nat.zero_add] at h
      exact h
    clear hs1 hs2
    cases er1 with
    | some e1 =>
      have hri : r i.1 = none := by rw [← hq]; exact if_neg (fun q => by cases q.1)
      gi_wp2_with (first | (refine ⟨trivial, ?_⟩; gi_at_call 27; refine (CallsIn.inRound l (callsIn_wide.2 (KO1 _ (Below.refl _ _)))).mono ?_; clear KO1; rintro e W2 ⟨rfl, hd1⟩) | (refine ⟨trivial, ?_⟩; gi_at_call 27; refine (CallsIn.inRound l (callsIn_wide.2 (KO2 _ hd1.below))).mono ?_; clear KO2; rintro e W3 ⟨rfl, hd2⟩; have hbd : Below W.heap.size W W3 := hd1.below.trans (hd2.below.mono hd1.below.size); have v6 : Boxed W3 w1.heap.size 22 v := (hbd.block _ hv.lt).trans hv; have c6 := v6.cell; have f6 := v6.frozen; have b2X : Boxed W3 w.heap.size 22 (.slice none 0 0) := (hbd.block _ b2W.lt).trans b2W; have c2X := b2X.cell; have f2X := b2X.frozen; have b3X : Boxed W3 (w.heap.size + 1) 25 .nilIface := (hbd.block _ b3W.lt).trans b3W; have c3X := b3X.cell; have f3X := b3X.frozen))
      exact ⟨((keepsO hbd).trans ((KeepsOthers.setCell _ _ _).trans (KeepsOthers.setCell _ _ _))).from _, rfl, ⟨i, by simp, hri⟩, (b2X.set _).other (B' := w.heap.size + 1) (by omega) _, (b3X.other (B' := w.heap.size) (by omega) _).set _, ((hB0.trans ((hBW.trans (hbd.mono hBW.size)).mono hB0.size)).setCell (Nat.le_refl _) _).setCell (by simp) _⟩
    | none =>
      cases er2 with
      | some e2 =>
        have hri : r i.1 = none := by rw [← hq]; exact if_neg (fun q => by cases q.2)
        gi_wp2_with (first | (refine ⟨trivial, ?_⟩; gi_at_call 27; refine (CallsIn.inRound l (callsIn_wide.2 (KO1 _ (Below.refl _ _)))).mono ?_; clear KO1; rintro e W2 ⟨rfl, hd1⟩) | (refine ⟨trivial, ?_⟩; gi_at_call 27; refine (CallsIn.inRound l (callsIn_wide.2 (KO2 _ hd1.below))).mono ?_; clear KO2; rintro e W3 ⟨rfl, hd2⟩; have hbd : Below W.heap.size W W3 := hd1.below.trans (hd2.below.mono hd1.below.size); have v6 : Boxed W3 w1.heap.size 22 v := (hbd.block _ hv.lt).trans hv; have c6 := v6.cell; have f6 := v6.frozen; have b2X : Boxed W3 w.heap.size 22 (.slice none 0 0) := (hbd.block _ b2W.lt).trans b2W; have c2X := b2X.cell; have f2X := b2X.frozen; have b3X : Boxed W3 (w.heap.size + 1) 25 .nilIface := (hbd.block _ b3W.lt).trans b3W; have c3X := b3X.cell; have f3X := b3X.frozen))
        exact ⟨((keepsO hbd).trans ((KeepsOthers.setCell _ _ _).trans (KeepsOthers.setCell _ _ _))).from _, rfl, ⟨i, by simp, hri⟩, (b2X.set _).other (B' := w.heap.size + 1) (by omega) _, (b3X.other (B' := w.heap.size) (by omega) _).set _, ((hB0.trans ((hBW.trans (hbd.mono hBW.size)).mono hB0.size)).setCell (Nat.le_refl _) _).setCell (by simp) _⟩
      | none =>
        have hri : r i.1 = some ⟨a1, a2⟩ := by rw [← hq]; exact if_pos ⟨rfl, rfl⟩
        gi_wp2_with (first | (refine ⟨trivial, ?_⟩; gi_at_call 27; refine (CallsIn.inRound l (callsIn_wide.2 (KO1 _ (Below.refl _ _)))).mono ?_; clear KO1; rintro e W2 ⟨rfl, hd1⟩) | (refine ⟨trivial, ?_⟩; gi_at_call 27; refine (CallsIn.inRound l (callsIn_wide.2 (KO2 _ hd1.below))).mono ?_; clear KO2; rintro e W3 ⟨rfl, hd2⟩; have hbd : Below W.heap.size W W3 := hd1.below.trans (hd2.below.mono hd1.below.size); have v6 : Boxed W3 w1.heap.size 22 v := (hbd.block _ hv.lt).trans hv; have c6 := v6.cell; have f6 := v6.frozen; have b2X : Boxed W3 w.heap.size 22 (.slice none 0 0) := (hbd.block _ b2W.lt).trans b2W; have c2X := b2X.cell; have f2X := b2X.frozen; have b3X : Boxed W3 (w.heap.size + 1) 25 .nilIface := (hbd.block _ b3W.lt).trans b3W; have c3X := b3X.cell; have f3X := b3X.frozen) | (gi_at_builtin; refine wpListIn_append_own _ rfl _ _ 22 rfl w1.heap.size 43 i0 (.agg #[(.int .i64 0), (.int .i64 0)]) 2 16 Try.underlying22 hi hz0 hz1 hz2 rfl (by decide) _ _ _ rfl ((own_move hrow (fun k hk => hbd.block k (own_lt hrow k hk))).alloc _) ⟨W3.heap.size, 0, none⟩ 1 1 [.int .i64 a1, .int .i64 a2] rfl rfl (news2 _ _ _ _) (by simp [Value.oneCell']) (by have := goods_len r pre; unfold maxLen; omega) (by have := goods_len r pre; omega) (by have := hBW.size; have := hbd.size; simp; omega) ?_; intro v' w4 hown' hgrow _; obtain ⟨g', cap', rfl⟩ := ownsRow_succ hown'; obtain ⟨hv1, hv2, hr2, hk2, hb2⟩ := v6.appended (by decide) (own_move hrow (fun k hk => hbd.block k (own_lt hrow k hk))) (Nat.le_trans hBW.size hbd.size) (Nat.le_refl _) hown' hgrow; have hc1_ := hv1.cell; have hf1_ := hv1.frozen))
        have hrow3 := own_move hrow (fun k hk => hbd.block k (own_lt hrow k hk))
        have hbs3 : Boxed W3 (w1.heap.size + 1) 32 (.slice A1 (16 * N) c1) := (hbd.block _ hbs.lt).trans hbs
        have hbc3 : Boxed W3 (w1.heap.size + 1 + 1) 3 (.int .i64 16) := (hbd.block _ hbc.lt).trans hbc
        have hbs5 := ((hbs3.alloc _).kept hgrow (hbs3.not_row (by decide) hrow3)).other (B' := w1.heap.size) (by omega) (.slice (some ⟨g', 0, none⟩) ((goods r pre).length + 1) cap')
        have hbc5 := ((hbc3.alloc _).kept hgrow (hbc3.not_row (by decide) hrow3)).other (B' := w1.heap.size) (by omega) (.slice (some ⟨g', 0, none⟩) ((goods r pre).length + 1) cap')
        refine ⟨((keepsO hbd).trans hk2).from _, ⟨(hbd.mono hBW.size).trans hb2, (Eq.trans hbs5 (Eq.symm hbs)), (Eq.trans hbc5 (Eq.symm hbc))⟩, ⟨_, hv2, ?_, ?_⟩, hbs5, hbc5, hBW.trans ((hbd.mono hBW.size).trans hb2)⟩
        · rw [goods_snoc r pre i _ hri, rcells_snoc, List.length_append]
          exact hr2
        · rw [goods_snoc r pre i _ hri, List.map_append, List.map_append, hG, List.map_singleton, List.map_singleton, hri]
  case done =>
    rintro D ys W hD hS ⟨⟨v, hv, hrow, hG⟩, hbs, hbc, hBW⟩ hK
    have b2W : Boxed W w.heap.size 22 (.slice none 0 0) := (hBW.block _ (by omega)).trans b2
    have b3W : Boxed W (w.heap.size + 1) 25 .nilIface := (hBW.block _ (by omega)).trans b3
    have hSW := hBW.size
    obtain ⟨Av, cv, rfl, hcv, hCv⟩ := Kd.R_reads (rows_R hrow)
    obtain ⟨t, hm, ht1, ht2⟩ := hgood (goods r ys) (by rw [hG, ← hS, List.map_map]; rfl)
    have cv_ := hv.cell
    have fv_ := hv.frozen
    cases t with
    | true =>
      obtain ⟨q1, q2⟩ := ht1 rfl
      subst q1
      subst q2
      gi_wp2_with (refine ⟨trivial, ?_⟩; gi_at_call 13; refine (callsIn_wide.2 (revoke_May.calls k Av cv _ true _ hCv hcv hm)).mono ?_; rintro e W2 ⟨rfl, hbd⟩; have b2X : Boxed W2 w.heap.size 22 (.slice none 0 0) := (hbd.block _ b2W.lt).trans b2W; have c2X := b2X.cell; have f2X := b2X.frozen; have b3X : Boxed W2 (w.heap.size + 1) 25 .nilIface := (hbd.block _ b3W.lt).trans b3W; have c3X := b3X.cell; have f3X := b3X.frozen; have v6 : Boxed W2 w1.heap.size 22 _ := (hbd.block _ hv.lt).trans hv; have c6 := v6.cell)
      have hK' := ((keepsO hbd).trans ((KeepsOthers.setCell W2 ⟨w.heap.size, 0, none⟩ (.slice Av (goods r ys).length cv)).trans (KeepsOthers.setCell _ ⟨w.heap.size + 1, 0, none⟩ .nilIface))).same D _ hK rfl
      refine ⟨by simp, .inl ⟨_, _, rfl, run_takeDeferred hK', ?_⟩⟩
      have e2 := ((b2X.set (.slice Av (goods r ys).length cv)).other (B' := w.heap.size + 1) (by omega) .nilIface).kept (grownBy_putObj' _ D (.deferred none)) (fun e => by cases e; omega)
      have e3 := (((b3X.other (B' := w.heap.size) (by omega) (.slice Av (goods r ys).length cv)).set .nilIface)).kept (grownBy_putObj' _ D (.deferred none)) (fun e => by cases e; omega)
      have hB9 := ((((hB0.trans ((hBW.trans (hbd.mono hBW.size)).mono hB0.size)).setCell (p := ⟨w.heap.size, 0, none⟩) (Nat.le_refl _) (.slice Av (goods r ys).length cv)).setCell (p := ⟨w.heap.size + 1, 0, none⟩) (by simp) .nilIface)).trans (belowK_b (w := wL) (by omega) _ D _ (.deferred none) hD hK' rfl rfl)
      exact ⟨_, results2 rfl rfl e2 e3, _, rfl, rows_R (own_base (ownsRow_putObj (ownsRow_set (b3X.other (B' := w.heap.size) (by omega) _) (by decide) (ownsRow_set b2X (by decide) (own_move hrow (fun k hk => hbd.block k (own_lt hrow k hk))))) (.deferred none) hK' rfl) (by omega)), hB9⟩
    | false =>
      obtain ⟨q1, q2⟩ := ht2 rfl
      subst q1
      subst q2
      gi_wp2_with (refine ⟨trivial, ?_⟩; gi_at_call 13; refine (callsIn_wide.2 (revoke_May.calls k Av cv _ false _ hCv hcv hm)).mono ?_; rintro e W2 ⟨rfl, hbd⟩; have b2X : Boxed W2 w.heap.size 22 (.slice none 0 0) := (hbd.block _ b2W.lt).trans b2W; have c2X := b2X.cell; have f2X := b2X.frozen; have b3X : Boxed W2 (w.heap.size + 1) 25 .nilIface := (hbd.block _ b3W.lt).trans b3W; have c3X := b3X.cell; have f3X := b3X.frozen; have v6 : Boxed W2 w1.heap.size 22 _ := (hbd.block _ hv.lt).trans hv; have c6 := v6.cell)
      have hK' := ((keepsO hbd).trans ((KeepsOthers.setCell W2 ⟨w.heap.size, 0, none⟩ (.slice none 0 0)).trans (KeepsOthers.setCell _ ⟨w.heap.size + 1, 0, none⟩ (.iface 29 (.int .i64 2))))).same D _ hK rfl
      refine ⟨by simp, .inl ⟨_, _, rfl, run_takeDeferred hK', ?_⟩⟩
      have e2 := ((b2X.set (.slice none 0 0)).other (B' := w.heap.size + 1) (by omega) (.iface 29 (.int .i64 2))).kept (grownBy_putObj' _ D (.deferred none)) (fun e => by cases e; omega)
      have e3 := (((b3X.other (B' := w.heap.size) (by omega) (.slice none 0 0)).set (.iface 29 (.int .i64 2)))).kept (grownBy_putObj' _ D (.deferred none)) (fun e => by cases e; omega)
      have hB9 := ((((hB0.trans ((hBW.trans (hbd.mono hBW.size)).mono hB0.size)).setCell (p := ⟨w.heap.size, 0, none⟩) (Nat.le_refl _) (.slice none 0 0)).setCell (p := ⟨w.heap.size + 1, 0, none⟩) (by simp) (.iface 29 (.int .i64 2)))).trans (belowK_b (w := wL) (by omega) _ D _ (.deferred none) hD hK' rfl rfl)
      exact ⟨_, results2 rfl rfl e2 e3, _, rfl, rows_R (World.ownsRow_nil _ _ _ _), hB9⟩
  case stop =>
    rintro D c pre W hD hSp ⟨rfl, ⟨i, _, hri⟩, h2, h3, hb'⟩ hK
    obtain ⟨q1, q2⟩ := hbad ⟨i.1, i.2, hri⟩
    subst q1
    subst q2
    gi_wp2
    refine ⟨by simp, .inl ⟨_, _, rfl, run_takeDeferred hK, ?_⟩⟩
    exact ⟨_, results2 rfl rfl (h2.kept (grownBy_putObj' _ D (.deferred none)) (fun e => by cases e; omega)) (h3.kept (grownBy_putObj' _ D (.deferred none)) (fun e => by cases e; omega)), _, rfl, rows_R (World.ownsRow_nil _ _ _ _), hb'.trans (belowK_b (w := wL) (by omega) _ D _ (.deferred none) hD hK rfl rfl)⟩
end Go.Proofs.Ytkaeoeebagndaaa.PRevokeBoth
