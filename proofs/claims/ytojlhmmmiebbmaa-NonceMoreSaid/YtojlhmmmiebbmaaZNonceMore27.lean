/- What the proof of NonceMore is made of, part 27. -/
import Derived.Test.YtojlhmmmiebbmaaZNonceMore12
import Derived.Test.YtojlhmmmiebbmaaZNonceMore23
namespace Go.Proofs.Ytojlhmmmiebbmaa.PNonceLists
open Go.RowKit Go.Proofs.Ytojlhmmmiebbmaa Go.Proofs.YtojlhmmmiebbmaaW.PrintWords Go.Proofs.YtojlhmmmiebbmaaW.PrintLast Go.Proofs.YtojlhmmmiebbmaaW.PrintMore Go.Proofs.Ytojlhmmmiebbmaa.Sha Go.Proofs.Ytojlhmmmiebbmaa.Arr
attribute [local go_sem] max2_int min2_int max_two min_two max_three min_three max_four min_four
set_option linter.unusedVariables false
set_option linter.unusedSimpArgs false
section
variable {w w' : World}
theorem C_but1 {b g n : Nat} {xs : List Int} (h : Kd.C (Kd.int .u8) w (some ⟨b, 0, none⟩) n xs) (hb : But w.heap.size g w w') (hg : b ≠ g) : Kd.C (Kd.int .u8) w' (some ⟨b, 0, none⟩) n xs := by
  have h1 := reads_of .u8 h
  refine Kd.C_of_reads (enc := Value.int .u8) (d := (0 : Int)) (h1 := fun _ => rfl) ⟨h1.1, h1.2.1, fun hp => ?_⟩
  obtain ⟨ad, e, hc⟩ := h1.2.2 hp
  refine ⟨ad, e, fun j hj => ?_⟩
  have h2 := hc j hj
  cases e
  have h3 := World.block_lt_of_cell? w _ h2
  rw [Addr.add_mid] at h2 h3 ⊢
  rw [← h2]
  simp only [World.cell?]
  rw [hb.block b h3 hg]
theorem C_size {b n : Nat} {xs : List Int} (h : Kd.C (Kd.int .u8) w (some ⟨b, 0, none⟩) n xs) (hp : 0 < n) : b < w.heap.size := by
  obtain ⟨ad, e, hc⟩ := (reads_of .u8 h).2.2 hp
  cases e
  have h3 := World.block_lt_of_cell? w _ (hc 0 hp)
  rwa [Addr.add_mid] at h3
/-- a row's bytes, for limb -/
theorem C_BAt {b : Nat} {l : List Nat} (h : Kd.C (Kd.int .u8) w (some ⟨b, 0, none⟩) (cN l).length (cN l)) (hb : Bs l) : BAt w (some ⟨b, 0, none⟩) l := by
  refine ⟨?_, hb⟩
  by_cases hl : l = []
  · exact .inl hl
  · have hp : 0 < (cN l).length := by rw [cN_length]; exact List.length_pos_iff.2 hl
    refine .inr ⟨b, 0, rfl, C_size h hp, fun i hi => ?_⟩
    obtain ⟨ad, e, hc⟩ := kC_cell h i hi
    cases e
    rwa [Addr.add_mid] at hc
/-- a row of rows, of its cells -/
theorem rows_mk2 {g : Nat} (l : List (List Nat)) (vs : List Value) (hc : ∀ i v, vs[i]? = some v → w.cell? ⟨g, i, none⟩ = some v)
    (hv : ∀ (i : Nat) (x : List Nat), l[i]? = some x → ∃ A c, vs[i]? = some (.slice A (cN x).length c) ∧ (cN x).length ≤ c ∧ Kd.C (Kd.int .u8) w A (cN x).length (cN x)) (hl : l.length ≤ 9223372036854775807) :
    Kd.C (Kd.slice 5 (Kd.int .u8)) w (some ⟨g, 0, none⟩) (l.map cN).length (l.map cN) := by
  refine ⟨rfl, by rw [List.length_map]; exact hl, fun _ => ⟨⟨g, 0, none⟩, rfl, fun j p hp => ?_⟩⟩
  rw [List.getElem?_map] at hp
  cases hx : l[j]? with
  | none => rw [hx] at hp; cases hp
  | some x =>
    rw [hx] at hp
    injection hp with hp
    subst hp
    obtain ⟨A, c, h1, h2, h3⟩ := hv j x hx
    refine ⟨[.slice A (cN x).length c], rfl, ⟨A, c, rfl, h2, h3⟩, fun i u hu => ?_⟩
    match i with
    | 0 =>
      injection hu with hu
      subst hu
      rw [show (⟨g, 0, none⟩ : Addr).add (j * (Kd.slice 5 (Kd.int IntKind.u8)).sz + 0) = ⟨g, j, none⟩ by rw [Addr.add_mid]; show (⟨g, 0 + (j * 1 + 0), none⟩ : Addr) = _; congr 1; omega]
      exact hc j _ h1
    | n + 1 => cases hu
theorem row_split {A : Option Addr} {l : List (List Nat)} (h : Kd.C (Kd.slice 5 (Kd.int .u8)) w A (l.map cN).length (l.map cN)) (hl : l ≠ []) :
    ∃ (ad : Addr) (vs : List Value), A = some ad ∧ vs.length = l.length ∧ (∀ j u, vs[j]? = some u → w.cell? (ad.add j) = some u) ∧ ∀ (i : Nat) (x : List Nat), l[i]? = some x → ∃ B c, vs[i]? = some (.slice B (cN x).length c) ∧ (cN x).length ≤ c ∧ Kd.C (Kd.int .u8) w B (cN x).length (cN x) := by
  obtain ⟨ad, e, hc⟩ := h.2.2 (by rw [List.length_map]; exact List.length_pos_iff.2 hl)
  have hj : ∀ (i : Nat) (x : List Nat), l[i]? = some x → ∃ B c, w.cell? (ad.add i) = some (.slice B (cN x).length c) ∧ (cN x).length ≤ c ∧ Kd.C (Kd.int .u8) w B (cN x).length (cN x) := by
    intro i x hx
    obtain ⟨cs, _, ⟨B, c, rfl, h2, h3⟩, h4⟩ := hc i (cN x) (by rw [List.getElem?_map, hx]; rfl)
    have h5 := h4 0 _ rfl
    rw [show i * (Kd.slice 5 (Kd.int IntKind.u8)).sz + 0 = i by show i * 1 + 0 = i; omega] at h5
    exact ⟨B, c, h5, h2, h3⟩
  refine ⟨ad, (List.range l.length).map (fun j => (w.cell? (ad.add j)).getD undef), e, by simp, ?_, ?_⟩
  · intro j u hu
    rw [List.getElem?_map] at hu
    by_cases hlt : j < l.length
    · rw [List.getElem?_range hlt] at hu
      obtain ⟨B, c, h1, _⟩ := hj j _ (List.getElem?_eq_getElem hlt)
      injection hu with hu
      have hu2 : (w.cell? (ad.add j)).getD undef = u := hu
      rw [h1] at hu2 ⊢
      rw [← hu2]
      rfl
    · rw [List.getElem?_eq_none (by simp; omega)] at hu
      cases hu
  · intro i x hx
    obtain ⟨B, c, h1, h2, h3⟩ := hj i x hx
    have hlt : i < l.length := (List.getElem?_eq_some_iff.1 hx).1
    refine ⟨B, c, ?_, h2, h3⟩
    rw [List.getElem?_map, List.getElem?_range hlt]
    show some ((w.cell? (ad.add i)).getD undef) = _
    rw [h1]
    rfl
end
/-- append(x, parts...) of rows -/
theorem app_parts {w : World} {g bv : Nat} {v : List Nat} (hr : Row 40 w g [.slice (some ⟨bv, 0, none⟩) 32 32]) (hv : Kd.C (Kd.int .u8) w (some ⟨bv, 0, none⟩) (cN v).length (cN v)) (hl : (cN v).length = 32)
    (A1 : Option Addr) (m1 c1 m2 : Nat) (l : List (List Nat)) (h1 : Kd.C (Kd.slice 5 (Kd.int .u8)) w A1 (l.map cN).length (l.map cN)) (hm1 : m1 = (l.map cN).length) (hm2 : m2 = ((v :: l).map cN).length) (hl1 : l.length ≤ 20) (hnil : l = [] → A1 = none ∧ c1 = 0) :
    ∃ A c w', (Builtin.append_ #[87, 87] 87 #[.slice (some ⟨g, 0, none⟩) 1 1, .slice A1 m1 c1]).run Try.prog w = .ok (.slice A m2 c) w' ∧
      Kd.C (Kd.slice 5 (Kd.int .u8)) w' A ((v :: l).map cN).length ((v :: l).map cN) ∧ Below w.heap.size w w' := by
  have hu : Try.prog.underlying 87 = some (.slice 40) := by kernel_rfl
  obtain ⟨i, hi, hiz, his, hib⟩ := info_parts (P := Try.prog) (e := 40) (z := .slice none 0 0) (size := 1) (bytes := 24) (by kernel_rfl)
  have hcell : ∀ j u, [Value.slice (some ⟨bv, 0, none⟩) 32 32][j]? = some u → w.cell? ((⟨g, 0, none⟩ : Addr).add j) = some u := by
    intro j u h
    rw [Addr.add_mid]
    have h2 := hr.cell j u h
    simpa using h2
  subst hm2
  by_cases hn : l = []
  · obtain ⟨rfl, rfl⟩ := hnil hn
    subst hn
    subst hm1
    have hown : w.ownsRow 0 40 1 (.slice (some ⟨g, 0, none⟩) 1 1) 1 [.slice (some ⟨bv, 0, none⟩) 32 32] := ⟨rfl, .inr ⟨g, 1, _, rfl, Nat.zero_le _, hr, Nat.le_refl _, by decide, rfl, rfl⟩⟩
    refine ⟨_, 1, w, run_append_owned_none (P := Try.prog) w 0 _ _ _ i 1 hu hi _ 1 _ hown, ?_, Below.refl _ _⟩
    refine rows_mk2 [v] [.slice (some ⟨bv, 0, none⟩) 32 32] (fun i v h => by have h2 := hcell i v h; rw [Addr.add_mid] at h2; simpa using h2) (fun i x hx => ?_) (by simp)
    match i with
    | 0 =>
      injection hx with hx
      subst hx
      exact ⟨_, 32, by rw [hl]; rfl, by rw [hl]; exact Nat.le_refl _, hv⟩
    | n + 1 => cases hx
  · obtain ⟨ad, vs, rfl, hvl, hvc, hvr⟩ := row_split h1 hn
    have hlp : 0 < l.length := List.length_pos_iff.2 hn
    have hm : m1 = l.length := by rw [hm1, List.length_map]
    have hrun := run_append_grow (P := Try.prog) w 87 87 40 i _ hu hi hiz ⟨g, 0, none⟩ 1 1 [.slice (some ⟨bv, 0, none⟩) 32 32] (by rw [his]; rfl) hcell ad m1 c1 vs (by rw [his, hvl, hm, Nat.mul_one]) hvc (by omega) (by omega) (by
      rw [hib, hm]
      exact growslice_fits (by omega) (by omega))
    have hB : Below w.heap.size w (w.drew.alloc (.cells ([Value.slice (some ⟨bv, 0, none⟩) 32 32].toArray ++ vs.toArray ++ Builtin.zeroCells (Value.slice none 0 0).cells (grownCap w (1 + m1) 1 40 - (1 + m1))) 40)) := below_alloc (below_drew (Below.refl _ _)) _
    refine ⟨_, _, _, by rw [show ((v :: l).map cN).length = 1 + m1 by rw [hm, List.length_map, List.length_cons, Nat.add_comm]]; exact hrun, ?_, hB⟩
    refine rows_mk2 (v :: l) ([.slice (some ⟨bv, 0, none⟩) 32 32] ++ vs) (fun j u h => ?_) (fun j x hx => ?_) (by rw [List.length_cons]; omega)
    · have h0 : (w.drew.alloc (.cells ([Value.slice (some ⟨bv, 0, none⟩) 32 32].toArray ++ vs.toArray ++ Builtin.zeroCells (Value.slice none 0 0).cells (grownCap w (1 + m1) 1 40 - (1 + m1))) 40)).heap[w.heap.size]? = some _ := heap_alloc_new w.drew _
      simp only [World.cell?, h0]
      have hlt : j < ([Value.slice (some ⟨bv, 0, none⟩) 32 32] ++ vs).length := (List.getElem?_eq_some_iff.1 h).1
      have h7 : ∀ (zz : List Value), ([Value.slice (some ⟨bv, 0, none⟩) 32 32] ++ vs ++ zz)[j]? = some u := fun zz => by rw [List.getElem?_append_left hlt]; exact h
      have h8 := h7 (Builtin.zeroCells (Value.slice none 0 0).cells (grownCap w (1 + m1) 1 40 - (1 + m1))).toList
      rw [← h8]
      show ([Value.slice (some ⟨bv, 0, none⟩) 32 32].toArray ++ vs.toArray ++ Builtin.zeroCells (Value.slice none 0 0).cells (grownCap w (1 + m1) 1 40 - (1 + m1)))[j]? = _
      rw [← Array.getElem?_toList]
      simp
    · match j with
      | 0 =>
        injection hx with hx
        subst hx
        exact ⟨_, 32, by rw [hl]; rfl, by rw [hl]; exact Nat.le_refl _, Kd.C_below hv hB⟩
      | n + 1 =>
        obtain ⟨B, c, h2, h3, h4⟩ := hvr n x (by simpa using hx)
        exact ⟨B, c, by simpa using h2, h3, Kd.C_below h4 hB⟩
theorem run_call_append {P : Program} {w w' : World} {v x r : Value} {a : Act} {o : Oper} (s x' : Operand) (t : TypeId) (ho : o.op = .call { callee := .builtin .append, args := #[s, x'], argTypes := #[t, t] }) (hs : a.eval s = v) (hx : a.eval x' = x)
    (h : (Builtin.append_ #[t, t] o.type #[v, x]).run P w = .ok r w') : (execOp a.eval o).run P w = .ok (.value r) w' := by
  unfold execOp
  simp only [ho, resolve, invoke, builtin, Sem.run_bind, Sem.run_pure, Result.andThen_ok, List.map_toArray, List.map_cons, List.map_nil, hs, hx, h]
/-- block g is nonce's source, of the key k and the state v -/
structure Src (w : World) (g bk bv : Nat) (k v : List Nat) : Prop where
  row : Row 66 w g [.slice (some ⟨bk, 0, none⟩) 32 32, .slice (some ⟨bv, 0, none⟩) 32 32]
  ck : Kd.C (Kd.int .u8) w (some ⟨bk, 0, none⟩) (cN k).length (cN k)
  cv : Kd.C (Kd.int .u8) w (some ⟨bv, 0, none⟩) (cN v).length (cN v)
  lk : k.length = 32
  lv : v.length = 32
  bsk : Bs k
  bsv : Bs v
  nek : bk ≠ g
  nev : bv ≠ g
section
variable {w w' : World} {g bk bv b : Nat} {k v x : List Nat}
theorem Src.size (h : Src w g bk bv k v) : g < w.heap.size := h.row.size
theorem Src.on (h : Src w g bk bv k v) (hb : Below w.heap.size w w') : Src w' g bk bv k v := ⟨h.row.below hb h.row.size, Kd.C_below h.ck hb, Kd.C_below h.cv hb, h.lk, h.lv, h.bsk, h.bsv, h.nek, h.nev⟩
theorem Src.c0 (h : Src w g bk bv k v) : w.cell? ⟨g, 0, none⟩ = some (.slice (some ⟨bk, 0, none⟩) 32 32) := h.row.cell 0 _ rfl
theorem Src.c1 (h : Src w g bk bv k v) : w.cell? ⟨g, 1, none⟩ = some (.slice (some ⟨bv, 0, none⟩) 32 32) := h.row.cell 1 _ rfl
theorem Src.setK (h : Src w g bk bv k v) (hc : Kd.C (Kd.int .u8) w (some ⟨b, 0, none⟩) (cN x).length (cN x)) (hl : x.length = 32) (hx : Bs x) (hb : b ≠ g) :
    Src (w.setCell ⟨g, 0, none⟩ (.slice (some ⟨b, 0, none⟩) 32 32)) g b bv x v ∧ But w.heap.size g w (w.setCell ⟨g, 0, none⟩ (.slice (some ⟨b, 0, none⟩) 32 32)) := by
  have hB : But w.heap.size g w (w.setCell ⟨g, 0, none⟩ (.slice (some ⟨b, 0, none⟩) 32 32)) := (But.of (Below.refl _ _)).self 0 _
  exact ⟨⟨h.row.set 0 _, C_but1 hc hB hb, C_but1 h.cv hB h.nev, hl, h.lv, hx, h.bsv, hb, h.nev⟩, hB⟩
theorem Src.setV (h : Src w g bk bv k v) (hc : Kd.C (Kd.int .u8) w (some ⟨b, 0, none⟩) (cN x).length (cN x)) (hl : x.length = 32) (hx : Bs x) (hb : b ≠ g) :
    Src (w.setCell ⟨g, 1, none⟩ (.slice (some ⟨b, 0, none⟩) 32 32)) g bk b k x ∧ But w.heap.size g w (w.setCell ⟨g, 1, none⟩ (.slice (some ⟨b, 0, none⟩) 32 32)) := by
  have hB : But w.heap.size g w (w.setCell ⟨g, 1, none⟩ (.slice (some ⟨b, 0, none⟩) 32 32)) := (But.of (Below.refl _ _)).self 1 _
  exact ⟨⟨h.row.set 1 _, C_but1 h.ck hB h.nek, C_but1 hc hB hb, h.lk, hl, h.bsk, hx, h.nek, hb⟩, hB⟩
theorem macOf_bs (k t : List Nat) : Bs (macOf k t) := sum_bs _
theorem _root_.Go.Proofs.Ytojlhmmmiebbmaa.Arr.Row.on {T : TypeId} {w w' : World} {g : Nat} {vs : List Value} (h : Row T w g vs) (hb : Below w.heap.size w w') : Row T w' g vs := h.below hb h.size
theorem _root_.Go.Proofs.Ytojlhmmmiebbmaa.Arr.Arr.on {k : IntKind} {T : TypeId} {w w' : World} {g : Nat} {xs : List Int} (h : Arr k T w g xs) (hb : Below w.heap.size w w') : Arr k T w' g xs := h.below hb h.size
end
end Go.Proofs.Ytojlhmmmiebbmaa.PNonceLists
namespace Go.Proofs.Ytojlhmmmiebbmaa.PNonceLists
open Go.RowKit Go.Proofs.Ytojlhmmmiebbmaa Go.Proofs.YtojlhmmmiebbmaaW.PrintWords Go.Proofs.YtojlhmmmiebbmaaW.PrintLast Go.Proofs.YtojlhmmmiebbmaaW.PrintMore Go.Proofs.Ytojlhmmmiebbmaa.Sha Go.Proofs.Ytojlhmmmiebbmaa.Arr
attribute [local go_sem] max2_int min2_int max_two min_two max_three min_three max_four min_four
set_option linter.unusedVariables false
set_option linter.unusedSimpArgs false
set_option maxRecDepth 100000 in
set_option maxHeartbeats 8000000 in
theorem code_calls {g bk bv : Nat} {k v : List Nat} (A1 : Option Addr) (c1 : Nat) (l : List (List Nat)) (w : World) (hS : Src w g bk bv k v) (h1 : Kd.C (Kd.slice 5 (Kd.int .u8)) w A1 (l.map cN).length (l.map cN)) (hbl : ∀ x ∈ l, Bs x) (hl1 : l.length ≤ 20) (hl2 : ∀ x ∈ l, x.length ≤ 1000) (hnil : l = [] → A1 = none ∧ c1 = 0) :
    Calls Try.prog 36 #[.pointer (some ⟨g, 0, none⟩), .slice A1 (l.map cN).length c1] w fun e w' => ∃ b, e = .returned (.slice (some ⟨b, 0, none⟩) 32 32) ∧ w.heap.size ≤ b ∧ Kd.C (Kd.int .u8) w' (some ⟨b, 0, none⟩) (cN (macOf k (v ++ l.flatten))).length (cN (macOf k (v ++ l.flatten))) ∧ Below w.heap.size w w' := by
  obtain ⟨m1, hm1⟩ : ∃ m, m = (l.map cN).length := ⟨_, rfl⟩
  obtain ⟨m2, hm2⟩ : ∃ m, m = ((v :: l).map cN).length := ⟨_, rfl⟩
  obtain ⟨D, hD⟩ : ∃ D, D = macOf k (v ++ l.flatten) := ⟨_, rfl⟩
  have HC0 : Aside0 (∀ W, Below w.heap.size w W → W.cell? ⟨g, 0, none⟩ = some (.slice (some ⟨bk, 0, none⟩) 32 32)) := Aside0.mk (fun W hb => (hS.on hb).c0)
  have HC1 : Aside0 (∀ W, Below w.heap.size w W → W.cell? ⟨g, 1, none⟩ = some (.slice (some ⟨bv, 0, none⟩) 32 32)) := Aside0.mk (fun W hb => (hS.on hb).c1)
  have hlv : (cN v).length = 32 := by rw [cN_length, hS.lv]
  have hlk : (cN k).length = 32 := by rw [cN_length, hS.lk]
  have HAP : Aside0 (∀ W q, Row 40 W q [.slice (some ⟨bv, 0, none⟩) 32 32] → Below w.heap.size w W → ∃ A c w', (Builtin.append_ #[87, 87] 87 #[.slice (some ⟨q, 0, none⟩) 1 1, .slice A1 m1 c1]).run Try.prog W = .ok (.slice A m2 c) w' ∧ Kd.C (Kd.slice 5 (Kd.int .u8)) w' A ((v :: l).map cN).length ((v :: l).map cN) ∧ Below W.heap.size W w') :=
    Aside0.mk (fun W q hr hb => app_parts hr (Kd.C_below hS.cv hb) hlv A1 m1 c1 m2 l (Kd.C_below h1 hb) hm1 hm2 hl1 hnil)
  have HOF : Aside0 (∀ W A c, Below w.heap.size w W → Kd.C (Kd.slice 5 (Kd.int .u8)) W A ((v :: l).map cN).length ((v :: l).map cN) → Calls Try.prog 48 #[.slice (some ⟨bk, 0, none⟩) 32 32, .slice A m2 c] W fun e w' => e = .returned (.agg (ints .u8 (cN D)).toArray) ∧ Below W.heap.size W w') := Aside0.mk (fun W A c hb hr => by
    have h := of_calls (some ⟨bk, 0, none⟩) 32 k A c (v :: l) W (Kd.C_below hS.ck hb) hr hS.bsk (fun x hx => by
      rcases List.mem_cons.1 hx with rfl | hx
      · exact hS.bsv
      · exact hbl x hx) (by rw [hS.lk]; decide) (by rw [List.length_cons]; omega) (fun x hx => by
      rcases List.mem_cons.1 hx with rfl | hx
      · rw [hS.lv]; decide
      · exact Nat.le_trans (hl2 x hx) (by decide))
    rw [hlk, ← hm2, List.flatten_cons, ← hD] at h
    exact h)
  have HDL : Aside0 ((cN D).length = 32) := Aside0.mk (by rw [cN_length, hD]; rfl)
  have HG : Aside0 (g < w.heap.size) := Aside0.mk hS.size
  rw [← hm1, ← hD]
  clear hS h1 hbl hl1 hl2 hnil hm1 hm2 hD hlv hlk
  go_enter Try.func36, Try.ntmps36
  go_wp2
  refine start_ (n := 14) (S := fun w' => Below w.heap.size w w' ∧ w'.cell? ⟨g, 0, none⟩ = some (.slice (some ⟨bk, 0, none⟩) 32 32) ∧ w'.cell? ⟨g, 1, none⟩ = some (.slice (some ⟨bv, 0, none⟩) 32 32)) (ds := [13]) #[false, false, false, false, false, false, false, false, false, false, false, false, false, false] (by kernel_rfl) rfl rfl ⟨(Below.refl _ _).drew, HC0.out _ (Below.refl _ _).drew, HC1.out _ (Below.refl _ _).drew⟩ (fun hHeld => ?_)
  refine pure_ (i := 0) (N := some 6) (v := ?_) (a' := ?_) #[true, false, false, false, false, false, false, false, false, false, false, false, false, false] rfl rfl (by kernel_rfl) (fun _ _ _ h => h) (Or.inl ⟨by rfl, ?_⟩) ?_ ?_
  rotate_left
  · intro w'
    go_simp
    with_reducible rfl
  rotate_left
  · simp only [Act.put, List.setIfInBounds_toArray, List.set_cons_zero, List.set_cons_succ, i64_w, i32_w]
    rfl
  refine pure_ (i := 1) (N := some 7) (v := ?_) (a' := ?_) #[true, true, false, false, false, false, false, false, false, false, false, false, false, false] rfl rfl (by kernel_rfl) (fun _ _ _ h => h) (Or.inl ⟨by rfl, ?_⟩) ?_ ?_
  rotate_left
  · intro w'
    go_simp
    with_reducible rfl
  rotate_left
  · simp only [Act.put, List.setIfInBounds_toArray, List.set_cons_zero, List.set_cons_succ, i64_w, i32_w]
    rfl
  refine pure_ (i := 2) (N := some 8) (v := ?_) (a' := ?_) #[true, true, true, false, false, false, false, false, false, false, false, false, false, false] rfl rfl (by kernel_rfl) (fun _ _ _ h => h) (Or.inl ⟨by rfl, ?_⟩) ?_ ?_
  rotate_left
  · intro w'
    go_simp
    with_reducible rfl
  rotate_left
  · simp only [Act.put, List.setIfInBounds_toArray, List.set_cons_zero, List.set_cons_succ, i64_w, i32_w]
    rfl
  refine pure_ (i := 4) (N := some 10) (v := ?_) (a' := ?_) #[true, true, true, false, true, false, false, false, false, false, false, false, false, false] rfl rfl (by kernel_rfl) (fun _ _ _ h => h) (Or.inl ⟨by rfl, ?_⟩) ?_ ?_
  rotate_left
  · intro w'
    go_simp
    with_reducible rfl
  rotate_left
  · simp only [Act.put, List.setIfInBounds_toArray, List.set_cons_zero, List.set_cons_succ, i64_w, i32_w]
    rfl
  refine pure_ (i := 5) (N := some 11) (v := ?_) (a' := ?_) #[true, true, true, false, true, true, false, false, false, false, false, false, false, false] rfl rfl (by kernel_rfl) (fun _ _ _ h => h) (Or.inl ⟨by rfl, ?_⟩) ?_ ?_
  rotate_left
  · intro w'
    go_simp
    with_reducible rfl
  rotate_left
  · simp only [Act.put, List.setIfInBounds_toArray, List.set_cons_zero, List.set_cons_succ, i64_w, i32_w]
    rfl
  refine pure_ (i := 6) (N := some 12) (v := ?_) (a' := ?_) #[true, true, true, false, true, true, true, false, false, false, false, false, false, false] rfl rfl (by kernel_rfl) (fun _ _ _ h => h) (Or.inl ⟨by rfl, ?_⟩) ?_ ?_
  rotate_left
  · intro w'
    go_simp
    with_reducible rfl
  rotate_left
  · simp only [Act.put, List.setIfInBounds_toArray, List.set_cons_zero, List.set_cons_succ, i64_w, i32_w]
    rfl
  refine pure_ (i := 9) (N := some 15) (v := ?_) (a' := ?_) #[true, true, true, false, true, true, true, false, false, true, false, false, false, false] rfl rfl (by kernel_rfl) (fun _ _ _ h => h) (Or.inl ⟨by rfl, ?_⟩) ?_ ?_
  rotate_left
  · intro w'
    go_simp
    with_reducible rfl
  rotate_left
  · simp only [Act.put, List.setIfInBounds_toArray, List.set_cons_zero, List.set_cons_succ, i64_w, i32_w]
    rfl
  refine take_ (i := 3) (N := some 9) (v := ?_) (a' := ?_) #[true, true, true, true, true, true, true, false, false, true, false, false, false, false] rfl rfl (by kernel_rfl) (fun _ _ _ h => h) (Or.inl ⟨by rfl, ?_⟩) hHeld ?_ ?_
  rotate_left
  · rintro w' ⟨s0, s1, s2⟩
    go_simp
    with_reducible rfl
  rotate_left
  · simp only [Act.put, List.setIfInBounds_toArray, List.set_cons_zero, List.set_cons_succ, i64_w, i32_w]
    rfl
  refine take_ (i := 7) (N := some 13) (v := ?_) (a' := ?_) #[true, true, true, true, true, true, true, true, false, true, false, false, false, false] rfl rfl (by kernel_rfl) (fun _ _ _ h => h) (Or.inl ⟨by rfl, ?_⟩) hHeld ?_ ?_
  rotate_left
  · rintro w' ⟨s0, s1, s2⟩
    go_simp
    with_reducible rfl
  rotate_left
  · simp only [Act.put, List.setIfInBounds_toArray, List.set_cons_zero, List.set_cons_succ, i64_w, i32_w]
    rfl
  refine join_ (σ := Nat × Nat × Option Addr × Nat) 1 #[true, true, true, true, true, true, true, true, true, true, true, true, true, false] (fun s => [(5, .pointer (some ⟨s.1, 0, none⟩)), (14, .slice (some ⟨s.2.1, 0, none⟩) 1 1), (16, .slice s.2.2.1 m2 s.2.2.2), (17, .agg (ints .u8 (cN D)).toArray)]) (fun s w' => Below w.heap.size w w' ∧ Arr .u8 26 w' s.1 (cN z32) ∧ w.heap.size ≤ s.1 ∧ Row 40 w' s.2.1 [.slice (some ⟨bv, 0, none⟩) 32 32] ∧ w.heap.size ≤ s.2.1) ?_ ?_
  rotate_left
  · intro hCont
    refine two_ (i := 8) (j := 12) (Ni := some 14) (Nj := some 5) #[true, true, true, true, true, true, true, true, true, true, false, false, false, false] #[true, true, true, true, true, true, true, true, false, true, false, false, true, false] rfl rfl rfl rfl (by kernel_rfl) (by decide) (by decide) (fun K hK => ?_) (fun K hK => ?_)
    · skip
      refine value_ (w1 := ?_) (v := ?_) (by rfl) rfl ?_ ?_
      rotate_left 2
      · go_simp
        constructor
        · rfl
        · rfl
      have hzg8 : Row 40 (World.alloc (World.drew w) (.cells #[.slice (some ⟨bv, 0, none⟩) 32 32] 40)) (w.heap.size) [.slice (some ⟨bv, 0, none⟩) 32 32] := by have h_ := Row.new (World.drew w) 40 [.slice (some ⟨bv, 0, none⟩) 32 32]; first | exact h_ | (simp only [alloc_sz] at h_; exact h_) | omega
      have hsg8 : w.heap.size ≤ w.heap.size := by have h_ := hHeld.1.size; first | exact h_ | (simp only [alloc_sz] at h_; exact h_) | omega
      refine hK.out _ _ ⟨below_alloc hHeld.1 _, HC0.out _ (below_alloc hHeld.1 _), HC1.out _ (below_alloc hHeld.1 _)⟩ (fun hHeld => ?_)
      clear hK K
      refine norm_ (a' := ?_) ?_ ?_
      rotate_left
      · show Act.put _ (some 14) _ = _
        simp only [Act.put, List.setIfInBounds_toArray, List.set_cons_zero, List.set_cons_succ, i64_w, i32_w]
        rfl
      refine two_ (i := 10) (j := 12) (Ni := some 16) (Nj := some 5) #[true, true, true, true, true, true, true, true, true, true, true, false, false, false] #[true, true, true, true, true, true, true, true, true, true, false, false, true, false] rfl rfl rfl rfl (by kernel_rfl) (by decide) (by decide) (fun K hK => ?_) (fun K hK => ?_)
      · skip
        obtain ⟨A16, c16, u2, hrun, hR16, hb2⟩ := HAP.out _ _ hzg8 hHeld.1
        refine value_ (w1 := u2) (v := .slice A16 m2 c16) (by rfl) rfl (run_call_append _ _ _ rfl rfl rfl hrun) ?_
        clear hrun
        have hzog8 := hzg8.on hb2
        clear hzg8
        have hzg8 := hzog8
        clear hzog8
        refine hK.out _ _ ⟨bl_on hHeld.1 hb2 hHeld.1.size, HC0.out _ (bl_on hHeld.1 hb2 hHeld.1.size), HC1.out _ (bl_on hHeld.1 hb2 hHeld.1.size)⟩ (fun hHeld => ?_)
        clear hK K
        refine norm_ (a' := ?_) ?_ ?_
        rotate_left
        · show Act.put _ (some 16) _ = _
          simp only [Act.put, List.setIfInBounds_toArray, List.set_cons_zero, List.set_cons_succ, i64_w, i32_w]
          rfl
        refine two_ (i := 11) (j := 12) (Ni := some 17) (Nj := some 5) #[true, true, true, true, true, true, true, true, true, true, true, true, false, false] #[true, true, true, true, true, true, true, true, true, true, true, false, true, false] rfl rfl rfl rfl (by kernel_rfl) (by decide) (by decide) (fun K hK => ?_) (fun K hK => ?_)
        · skip
          refine goes_ Try.func48 (by kernel_rfl) rfl #[.slice (some ⟨bk, 0, none⟩) 32 32, .slice A16 m2 c16] (by rfl) rfl rfl (by simp only [List.map_toArray, List.map_cons, List.map_nil]; rfl) ?_
          with_reducible refine (HOF.out _ _ _ hHeld.1 hR16).mono ?_
          rintro e u3 ⟨rfl, hb3⟩
          refine ⟨_, rfl, ?_⟩
          have hzog8 := hzg8.on hb3
          clear hzg8
          have hzg8 := hzog8
          clear hzog8
          refine hK.out _ _ ⟨bl_on hHeld.1 hb3 hHeld.1.size, HC0.out _ (bl_on hHeld.1 hb3 hHeld.1.size), HC1.out _ (bl_on hHeld.1 hb3 hHeld.1.size)⟩ (fun hHeld => ?_)
          clear hK K
          refine norm_ (a' := ?_) ?_ ?_
          rotate_left
          · show Act.put _ (some 17) _ = _
            simp only [Act.put, List.setIfInBounds_toArray, List.set_cons_zero, List.set_cons_succ, i64_w, i32_w]
            rfl
          refine one_ (i := 12) (N := some 5) #[true, true, true, true, true, true, true, true, true, true, true, true, true, false] rfl rfl (by kernel_rfl) (by decide) (fun K hK => ?_)
          refine value_ (w1 := ?_) (v := ?_) (by rfl) rfl ?_ ?_
          rotate_left 2
          · go_simp
            constructor
            · rfl
            · rfl
          have hzg5 : Arr .u8 26 (World.alloc u3 (.cells #[.int .u8 0, .int .u8 0, .int .u8 0, .int .u8 0, .int .u8 0, .int .u8 0, .int .u8 0, .int .u8 0, .int .u8 0, .int .u8 0, .int .u8 0, .int .u8 0, .int .u8 0, .int .u8 0, .int .u8 0, .int .u8 0, .int .u8 0, .int .u8 0, .int .u8 0, .int .u8 0, .int .u8 0, .int .u8 0, .int .u8 0, .int .u8 0, .int .u8 0, .int .u8 0, .int .u8 0, .int .u8 0, .int .u8 0, .int .u8 0, .int .u8 0, .int .u8 0] 26)) (u3.heap.size) (cN z32) := by have h_ := Arr.new u3 .u8 26 (cN z32); first | exact h_ | (simp only [alloc_sz] at h_; exact h_) | omega
          have hsg5 : w.heap.size ≤ u3.heap.size := by have h_ := hHeld.1.size; first | exact h_ | (simp only [alloc_sz] at h_; exact h_) | omega
          have hzog8 := hzg8.on (below_alloc (Below.refl _ u3) (.cells #[.int .u8 0, .int .u8 0, .int .u8 0, .int .u8 0, .int .u8 0, .int .u8 0, .int .u8 0, .int .u8 0, .int .u8 0, .int .u8 0, .int .u8 0, .int .u8 0, .int .u8 0, .int .u8 0, .int .u8 0, .int .u8 0, .int .u8 0, .int .u8 0, .int .u8 0, .int .u8 0, .int .u8 0, .int .u8 0, .int .u8 0, .int .u8 0, .int .u8 0, .int .u8 0, .int .u8 0, .int .u8 0, .int .u8 0, .int .u8 0, .int .u8 0, .int .u8 0] 26))
          clear hzg8
          have hzg8 := hzog8
          clear hzog8
          refine hK.out _ _ ⟨below_alloc hHeld.1 _, HC0.out _ (below_alloc hHeld.1 _), HC1.out _ (below_alloc hHeld.1 _)⟩ (fun hHeld => ?_)
          clear hK K
          refine norm_ (a' := ?_) ?_ ?_
          rotate_left
          · show Act.put _ (some 5) _ = _
            simp only [Act.put, List.setIfInBounds_toArray, List.set_cons_zero, List.set_cons_succ, i64_w, i32_w]
            rfl
          exact norm_ (by simp only [putAll, Act.put, List.setIfInBounds_toArray, List.set_cons_zero, List.set_cons_succ]) (hCont (u3.heap.size, w.heap.size, A16, c16) _ ⟨hHeld.1, hzg5, hsg5, hzg8, hsg8⟩)
        · skip
          refine value_ (w1 := ?_) (v := ?_) (by rfl) rfl ?_ ?_
          rotate_left 2
          · go_simp
            constructor
            · rfl
            · rfl
          have hzg5 : Arr .u8 26 (World.alloc u2 (.cells #[.int .u8 0, .int .u8 0, .int .u8 0, .int .u8 0, .int .u8 0, .int .u8 0, .int .u8 0, .int .u8 0, .int .u8 0, .int .u8 0, .int .u8 0, .int .u8 0, .int .u8 0, .int .u8 0, .int .u8 0, .int .u8 0, .int .u8 0, .int .u8 0, .int .u8 0, .int .u8 0, .int .u8 0, .int .u8 0, .int .u8 0, .int .u8 0, .int .u8 0, .int .u8 0, .int .u8 0, .int .u8 0, .int .u8 0, .int .u8 0, .int .u8 0, .int .u8 0] 26)) (u2.heap.size) (cN z32) := by have h_ := Arr.new u2 .u8 26 (cN z32); first | exact h_ | (simp only [alloc_sz] at h_; exact h_) | omega
          have hsg5 : w.heap.size ≤ u2.heap.size := by have h_ := hHeld.1.size; first | exact h_ | (simp only [alloc_sz] at h_; exact h_) | omega
          have hzog8 := hzg8.on (below_alloc (Below.refl _ u2) (.cells #[.int .u8 0, .int .u8 0, .int .u8 0, .int .u8 0, .int .u8 0, .int .u8 0, .int .u8 0, .int .u8 0, .int .u8 0, .int .u8 0, .int .u8 0, .int .u8 0, .int .u8 0, .int .u8 0, .int .u8 0, .int .u8 0, .int .u8 0, .int .u8 0, .int .u8 0, .int .u8 0, .int .u8 0, .int .u8 0, .int .u8 0, .int .u8 0, .int .u8 0, .int .u8 0, .int .u8 0, .int .u8 0, .int .u8 0, .int .u8 0, .int .u8 0, .int .u8 0] 26))
          clear hzg8
          have hzg8 := hzog8
          clear hzog8
          replace hR16 := Kd.C_below hR16 (below_alloc (Below.refl _ u2) (.cells #[.int .u8 0, .int .u8 0, .int .u8 0, .int .u8 0, .int .u8 0, .int .u8 0, .int .u8 0, .int .u8 0, .int .u8 0, .int .u8 0, .int .u8 0, .int .u8 0, .int .u8 0, .int .u8 0, .int .u8 0, .int .u8 0, .int .u8 0, .int .u8 0, .int .u8 0, .int .u8 0, .int .u8 0, .int .u8 0, .int .u8 0, .int .u8 0, .int .u8 0, .int .u8 0, .int .u8 0, .int .u8 0, .int .u8 0, .int .u8 0, .int .u8 0, .int .u8 0] 26))
          refine hK.out _ _ ⟨below_alloc hHeld.1 _, HC0.out _ (below_alloc hHeld.1 _), HC1.out _ (below_alloc hHeld.1 _)⟩ (fun hHeld => ?_)
          clear hK K
          refine norm_ (a' := ?_) ?_ ?_
          rotate_left
          · show Act.put _ (some 5) _ = _
            simp only [Act.put, List.setIfInBounds_toArray, List.set_cons_zero, List.set_cons_succ, i64_w, i32_w]
            rfl
          refine one_ (i := 11) (N := some 17) #[true, true, true, true, true, true, true, true, true, true, true, true, true, false] rfl rfl (by kernel_rfl) (by decide) (fun K hK => ?_)
          refine goes_ Try.func48 (by kernel_rfl) rfl #[.slice (some ⟨bk, 0, none⟩) 32 32, .slice A16 m2 c16] (by rfl) rfl rfl (by simp only [List.map_toArray, List.map_cons, List.map_nil]; rfl) ?_
          with_reducible refine (HOF.out _ _ _ hHeld.1 hR16).mono ?_
          rintro e u3 ⟨rfl, hb3⟩
          refine ⟨_, rfl, ?_⟩
          have hzog8 := hzg8.on hb3
          clear hzg8
          have hzg8 := hzog8
          clear hzog8
          have hzog5 := hzg5.on hb3
          clear hzg5
          have hzg5 := hzog5
          clear hzog5
          refine hK.out _ _ ⟨bl_on hHeld.1 hb3 hHeld.1.size, HC0.out _ (bl_on hHeld.1 hb3 hHeld.1.size), HC1.out _ (bl_on hHeld.1 hb3 hHeld.1.size)⟩ (fun hHeld => ?_)
          clear hK K
          refine norm_ (a' := ?_) ?_ ?_
          rotate_left
          · show Act.put _ (some 17) _ = _
            simp only [Act.put, List.setIfInBounds_toArray, List.set_cons_zero, List.set_cons_succ, i64_w, i32_w]
            rfl
          exact norm_ (by simp only [putAll, Act.put, List.setIfInBounds_toArray, List.set_cons_zero, List.set_cons_succ]) (hCont (u2.heap.size, w.heap.size, A16, c16) _ ⟨hHeld.1, hzg5, hsg5, hzg8, hsg8⟩)
      · skip
        refine value_ (w1 := ?_) (v := ?_) (by rfl) rfl ?_ ?_
        rotate_left 2
        · go_simp
          constructor
          · rfl
          · rfl
        have hzg5 : Arr .u8 26 (World.alloc (World.alloc (World.drew w) (.cells #[.slice (some ⟨bv, 0, none⟩) 32 32] 40)) (.cells #[.int .u8 0, .int .u8 0, .int .u8 0, .int .u8 0, .int .u8 0, .int .u8 0, .int .u8 0, .int .u8 0, .int .u8 0, .int .u8 0, .int .u8 0, .int .u8 0, .int .u8 0, .int .u8 0, .int .u8 0, .int .u8 0, .int .u8 0, .int .u8 0, .int .u8 0, .int .u8 0, .int .u8 0, .int .u8 0, .int .u8 0, .int .u8 0, .int .u8 0, .int .u8 0, .int .u8 0, .int .u8 0, .int .u8 0, .int .u8 0, .int .u8 0, .int .u8 0] 26)) (w.heap.size + 1) (cN z32) := by have h_ := Arr.new (World.alloc (World.drew w) (.cells #[.slice (some ⟨bv, 0, none⟩) 32 32] 40)) .u8 26 (cN z32); first | exact h_ | (simp only [alloc_sz] at h_; exact h_) | omega
        have hsg5 : w.heap.size ≤ w.heap.size + 1 := by have h_ := hHeld.1.size; first | exact h_ | (simp only [alloc_sz] at h_; exact h_) | omega
        have hzog8 := hzg8.on (below_alloc (Below.refl _ (World.alloc (World.drew w) (.cells #[.slice (some ⟨bv, 0, none⟩) 32 32] 40))) (.cells #[.int .u8 0, .int .u8 0, .int .u8 0, .int .u8 0, .int .u8 0, .int .u8 0, .int .u8 0, .int .u8 0, .int .u8 0, .int .u8 0, .int .u8 0, .int .u8 0, .int .u8 0, .int .u8 0, .int .u8 0, .int .u8 0, .int .u8 0, .int .u8 0, .int .u8 0, .int .u8 0, .int .u8 0, .int .u8 0, .int .u8 0, .int .u8 0, .int .u8 0, .int .u8 0, .int .u8 0, .int .u8 0, .int .u8 0, .int .u8 0, .int .u8 0, .int .u8 0] 26))
        clear hzg8
        have hzg8 := hzog8
        clear hzog8
        refine hK.out _ _ ⟨below_alloc hHeld.1 _, HC0.out _ (below_alloc hHeld.1 _), HC1.out _ (below_alloc hHeld.1 _)⟩ (fun hHeld => ?_)
        clear hK K
        refine norm_ (a' := ?_) ?_ ?_
        rotate_left
        · show Act.put _ (some 5) _ = _
          simp only [Act.put, List.setIfInBounds_toArray, List.set_cons_zero, List.set_cons_succ, i64_w, i32_w]
          rfl
        refine one_ (i := 10) (N := some 16) #[true, true, true, true, true, true, true, true, true, true, true, false, true, false] rfl rfl (by kernel_rfl) (by decide) (fun K hK => ?_)
        obtain ⟨A16, c16, u2, hrun, hR16, hb2⟩ := HAP.out _ _ hzg8 hHeld.1
        refine value_ (w1 := u2) (v := .slice A16 m2 c16) (by rfl) rfl (run_call_append _ _ _ rfl rfl rfl hrun) ?_
        clear hrun
        have hzog8 := hzg8.on hb2
        clear hzg8
        have hzg8 := hzog8
        clear hzog8
        have hzog5 := hzg5.on hb2
        clear hzg5
        have hzg5 := hzog5
        clear hzog5
        refine hK.out _ _ ⟨bl_on hHeld.1 hb2 hHeld.1.size, HC0.out _ (bl_on hHeld.1 hb2 hHeld.1.size), HC1.out _ (bl_on hHeld.1 hb2 hHeld.1.size)⟩ (fun hHeld => ?_)
        clear hK K
        refine norm_ (a' := ?_) ?_ ?_
        rotate_left
        · show Act.put _ (some 16) _ = _
          simp only [Act.put, List.setIfInBounds_toArray, List.set_cons_zero, List.set_cons_succ, i64_w, i32_w]
          rfl
        refine one_ (i := 11) (N := some 17) #[true, true, true, true, true, true, true, true, true, true, true, true, true, false] rfl rfl (by kernel_rfl) (by decide) (fun K hK => ?_)
        refine goes_ Try.func48 (by kernel_rfl) rfl #[.slice (some ⟨bk, 0, none⟩) 32 32, .slice A16 m2 c16] (by rfl) rfl rfl (by simp only [List.map_toArray, List.map_cons, List.map_nil]; rfl) ?_
        with_reducible refine (HOF.out _ _ _ hHeld.1 hR16).mono ?_
        rintro e u3 ⟨rfl, hb3⟩
        refine ⟨_, rfl, ?_⟩
        have hzog8 := hzg8.on hb3
        clear hzg8
        have hzg8 := hzog8
        clear hzog8
        have hzog5 := hzg5.on hb3
        clear hzg5
        have hzg5 := hzog5
        clear hzog5
        refine hK.out _ _ ⟨bl_on hHeld.1 hb3 hHeld.1.size, HC0.out _ (bl_on hHeld.1 hb3 hHeld.1.size), HC1.out _ (bl_on hHeld.1 hb3 hHeld.1.size)⟩ (fun hHeld => ?_)
        clear hK K
        refine norm_ (a' := ?_) ?_ ?_
        rotate_left
        · show Act.put _ (some 17) _ = _
          simp only [Act.put, List.setIfInBounds_toArray, List.set_cons_zero, List.set_cons_succ, i64_w, i32_w]
          rfl
        exact norm_ (by simp only [putAll, Act.put, List.setIfInBounds_toArray, List.set_cons_zero, List.set_cons_succ]) (hCont (w.heap.size + 1, w.heap.size, A16, c16) _ ⟨hHeld.1, hzg5, hsg5, hzg8, hsg8⟩)
    · skip
      refine value_ (w1 := ?_) (v := ?_) (by rfl) rfl ?_ ?_
      rotate_left 2
      · go_simp
        constructor
        · rfl
        · rfl
      have hzg5 : Arr .u8 26 (World.alloc (World.drew w) (.cells #[.int .u8 0, .int .u8 0, .int .u8 0, .int .u8 0, .int .u8 0, .int .u8 0, .int .u8 0, .int .u8 0, .int .u8 0, .int .u8 0, .int .u8 0, .int .u8 0, .int .u8 0, .int .u8 0, .int .u8 0, .int .u8 0, .int .u8 0, .int .u8 0, .int .u8 0, .int .u8 0, .int .u8 0, .int .u8 0, .int .u8 0, .int .u8 0, .int .u8 0, .int .u8 0, .int .u8 0, .int .u8 0, .int .u8 0, .int .u8 0, .int .u8 0, .int .u8 0] 26)) (w.heap.size) (cN z32) := by have h_ := Arr.new (World.drew w) .u8 26 (cN z32); first | exact h_ | (simp only [alloc_sz] at h_; exact h_) | omega
      have hsg5 : w.heap.size ≤ w.heap.size := by have h_ := hHeld.1.size; first | exact h_ | (simp only [alloc_sz] at h_; exact h_) | omega
      refine hK.out _ _ ⟨below_alloc hHeld.1 _, HC0.out _ (below_alloc hHeld.1 _), HC1.out _ (below_alloc hHeld.1 _)⟩ (fun hHeld => ?_)
      clear hK K
      refine norm_ (a' := ?_) ?_ ?_
      rotate_left
      · show Act.put _ (some 5) _ = _
        simp only [Act.put, List.setIfInBounds_toArray, List.set_cons_zero, List.set_cons_succ, i64_w, i32_w]
        rfl
      refine one_ (i := 8) (N := some 14) #[true, true, true, true, true, true, true, true, true, true, false, false, true, false] rfl rfl (by kernel_rfl) (by decide) (fun K hK => ?_)
      refine value_ (w1 := ?_) (v := ?_) (by rfl) rfl ?_ ?_
      rotate_left 2
      · go_simp
        constructor
        · rfl
        · rfl
      have hzg8 : Row 40 (World.alloc (World.alloc (World.drew w) (.cells #[.int .u8 0, .int .u8 0, .int .u8 0, .int .u8 0, .int .u8 0, .int .u8 0, .int .u8 0, .int .u8 0, .int .u8 0, .int .u8 0, .int .u8 0, .int .u8 0, .int .u8 0, .int .u8 0, .int .u8 0, .int .u8 0, .int .u8 0, .int .u8 0, .int .u8 0, .int .u8 0, .int .u8 0, .int .u8 0, .int .u8 0, .int .u8 0, .int .u8 0, .int .u8 0, .int .u8 0, .int .u8 0, .int .u8 0, .int .u8 0, .int .u8 0, .int .u8 0] 26)) (.cells #[.slice (some ⟨bv, 0, none⟩) 32 32] 40)) (w.heap.size + 1) [.slice (some ⟨bv, 0, none⟩) 32 32] := by have h_ := Row.new (World.alloc (World.drew w) (.cells #[.int .u8 0, .int .u8 0, .int .u8 0, .int .u8 0, .int .u8 0, .int .u8 0, .int .u8 0, .int .u8 0, .int .u8 0, .int .u8 0, .int .u8 0, .int .u8 0, .int .u8 0, .int .u8 0, .int .u8 0, .int .u8 0, .int .u8 0, .int .u8 0, .int .u8 0, .int .u8 0, .int .u8 0, .int .u8 0, .int .u8 0, .int .u8 0, .int .u8 0, .int .u8 0, .int .u8 0, .int .u8 0, .int .u8 0, .int .u8 0, .int .u8 0, .int .u8 0] 26)) 40 [.slice (some ⟨bv, 0, none⟩) 32 32]; first | exact h_ | (simp only [alloc_sz] at h_; exact h_) | omega
      have hsg8 : w.heap.size ≤ w.heap.size + 1 := by have h_ := hHeld.1.size; first | exact h_ | (simp only [alloc_sz] at h_; exact h_) | omega
      have hzog5 := hzg5.on (below_alloc (Below.refl _ (World.alloc (World.drew w) (.cells #[.int .u8 0, .int .u8 0, .int .u8 0, .int .u8 0, .int .u8 0, .int .u8 0, .int .u8 0, .int .u8 0, .int .u8 0, .int .u8 0, .int .u8 0, .int .u8 0, .int .u8 0, .int .u8 0, .int .u8 0, .int .u8 0, .int .u8 0, .int .u8 0, .int .u8 0, .int .u8 0, .int .u8 0, .int .u8 0, .int .u8 0, .int .u8 0, .int .u8 0, .int .u8 0, .int .u8 0, .int .u8 0, .int .u8 0, .int .u8 0, .int .u8 0, .int .u8 0] 26))) (.cells #[.slice (some ⟨bv, 0, none⟩) 32 32] 40))
      clear hzg5
      have hzg5 := hzog5
      clear hzog5
      refine hK.out _ _ ⟨below_alloc hHeld.1 _, HC0.out _ (below_alloc hHeld.1 _), HC1.out _ (below_alloc hHeld.1 _)⟩ (fun hHeld => ?_)
      clear hK K
      refine norm_ (a' := ?_) ?_ ?_
      rotate_left
      · show Act.put _ (some 14) _ = _
        simp only [Act.put, List.setIfInBounds_toArray, List.set_cons_zero, List.set_cons_succ, i64_w, i32_w]
        rfl
      refine one_ (i := 10) (N := some 16) #[true, true, true, true, true, true, true, true, true, true, true, false, true, false] rfl rfl (by kernel_rfl) (by decide) (fun K hK => ?_)
      obtain ⟨A16, c16, u2, hrun, hR16, hb2⟩ := HAP.out _ _ hzg8 hHeld.1
      refine value_ (w1 := u2) (v := .slice A16 m2 c16) (by rfl) rfl (run_call_append _ _ _ rfl rfl rfl hrun) ?_
      clear hrun
      have hzog5 := hzg5.on hb2
      clear hzg5
      have hzg5 := hzog5
      clear hzog5
      have hzog8 := hzg8.on hb2
      clear hzg8
      have hzg8 := hzog8
      clear hzog8
      refine hK.out _ _ ⟨bl_on hHeld.1 hb2 hHeld.1.size, HC0.out _ (bl_on hHeld.1 hb2 hHeld.1.size), HC1.out _ (bl_on hHeld.1 hb2 hHeld.1.size)⟩ (fun hHeld => ?_)
      clear hK K
      refine norm_ (a' := ?_) ?_ ?_
      rotate_left
      · show Act.put _ (some 16) _ = _
        simp only [Act.put, List.setIfInBounds_toArray, List.set_cons_zero, List.set_cons_succ, i64_w, i32_w]
        rfl
      refine one_ (i := 11) (N := some 17) #[true, true, true, true, true, true, true, true, true, true, true, true, true, false] rfl rfl (by kernel_rfl) (by decide) (fun K hK => ?_)
      refine goes_ Try.func48 (by kernel_rfl) rfl #[.slice (some ⟨bk, 0, none⟩) 32 32, .slice A16 m2 c16] (by rfl) rfl rfl (by simp only [List.map_toArray, List.map_cons, List.map_nil]; rfl) ?_
      with_reducible refine (HOF.out _ _ _ hHeld.1 hR16).mono ?_
      rintro e u3 ⟨rfl, hb3⟩
      refine ⟨_, rfl, ?_⟩
      have hzog5 := hzg5.on hb3
      clear hzg5
      have hzg5 := hzog5
      clear hzog5
      have hzog8 := hzg8.on hb3
      clear hzg8
      have hzg8 := hzog8
      clear hzog8
      refine hK.out _ _ ⟨bl_on hHeld.1 hb3 hHeld.1.size, HC0.out _ (bl_on hHeld.1 hb3 hHeld.1.size), HC1.out _ (bl_on hHeld.1 hb3 hHeld.1.size)⟩ (fun hHeld => ?_)
      clear hK K
      refine norm_ (a' := ?_) ?_ ?_
      rotate_left
      · show Act.put _ (some 17) _ = _
        simp only [Act.put, List.setIfInBounds_toArray, List.set_cons_zero, List.set_cons_succ, i64_w, i32_w]
        rfl
      exact norm_ (by simp only [putAll, Act.put, List.setIfInBounds_toArray, List.set_cons_zero, List.set_cons_succ]) (hCont (w.heap.size, w.heap.size + 1, A16, c16) _ ⟨hHeld.1, hzg5, hsg5, hzg8, hsg8⟩)
  rintro ⟨g5, g8, A16, c16⟩ w5 ⟨hHeld0, hzg5, hsg5, hzg8, hsg8⟩
  have hHeld : Below w.heap.size w w5 ∧ w5.cell? ⟨g, 0, none⟩ = some (.slice (some ⟨bk, 0, none⟩) 32 32) ∧ w5.cell? ⟨g, 1, none⟩ = some (.slice (some ⟨bv, 0, none⟩) 32 32) := ⟨hHeld0, HC0.out _ (hHeld0), HC1.out _ (hHeld0)⟩
  clear hHeld0
  refine norm_ (a' := ?_) ?_ ?_
  rotate_left
  · simp only [putAll, Act.put, List.setIfInBounds_toArray, List.set_cons_zero, List.set_cons_succ]
    rfl
  refine last_ (i := 13) (N := none) #[true, true, true, true, true, true, true, true, true, true, true, true, true, true] rfl rfl (by kernel_rfl) (by decide) (fun K hK => ?_)
  refine skip_store (by rfl) rfl 26 (.tmp 5) (.tmp 17) rfl g5 0 (ints .u8 (cN D)).toArray rfl rfl (hzg5.there (by rw [List.size_toArray, ints_length, HDL.out]; rfl)) (by rw [List.size_toArray, ints_length, HDL.out]; rfl) (all_oneCell_toArray (ints_one _ _)) ?_
  rw [List.toList_toArray]
  have hA10 := hzg5.setCells (ys := cN D) (by rw [HDL.out]; rfl)
  have hB10 := below_setCells hsg5 (ints .u8 (cN D)) 0 w5 hHeld.1
  generalize w5.setCells g5 0 (ints .u8 (cN D)) = w6 at *
  refine hK.out _ _ ?_
  clear hK K
  refine done_ (by kernel_rfl) ?_
  have HB10 := Aside0.mk hB10
  have HA10 := Aside0.mk hA10
  have HS5 := Aside0.mk hsg5
  clear hB10 hA10 hsg5 hzg5 hzg8 hsg8 hHeld
  go_wp2
  go_ret
  exact ⟨g5, rfl, HS5.out, by rw [HDL.out]; exact arr_C32 HDL.out HA10.out, HB10.out⟩
end Go.Proofs.Ytojlhmmmiebbmaa.PNonceLists
namespace Go.Proofs.Ytojlhmmmiebbmaa.PNonceLists
open Go.RowKit Go.Proofs.Ytojlhmmmiebbmaa Go.Proofs.YtojlhmmmiebbmaaW.PrintWords Go.Proofs.YtojlhmmmiebbmaaW.PrintLast Go.Proofs.YtojlhmmmiebbmaaW.PrintMore Go.Proofs.Ytojlhmmmiebbmaa.Sha Go.Proofs.Ytojlhmmmiebbmaa.Arr
attribute [local go_sem] max2_int min2_int max_two min_two max_three min_three max_four min_four
set_option linter.unusedVariables false
set_option linter.unusedSimpArgs false
section
variable {w w' : World} {g bk bv b q : Nat} {k v x : List Nat}
theorem Src.but (h : Src w g bk bv k v) (hb : But w.heap.size q w w') (h1 : g ≠ q) (h2 : bk ≠ q) (h3 : bv ≠ q) : Src w' g bk bv k v :=
  ⟨Row.block h.row (hb.block g h.size h1), C_but1 h.ck hb h2, C_but1 h.cv hb h3, h.lk, h.lv, h.bsk, h.bsv, h.nek, h.nev⟩
theorem Src.lt (h : Src w g bk bv k v) : g < w.heap.size ∧ bk < w.heap.size ∧ bv < w.heap.size := ⟨h.size, C_size h.ck (by rw [cN_length, h.lk]; decide), C_size h.cv (by rw [cN_length, h.lv]; decide)⟩
theorem _root_.Go.Proofs.Ytojlhmmmiebbmaa.Arr.But.on {B : Nat} {a w w' : World} (h : But B g a w) (hb : Below w.heap.size w w') (hB : B ≤ w.heap.size) : But B g a w' := h.trans (But.of (hb.mono hB))
theorem _root_.Go.Proofs.Ytojlhmmmiebbmaa.Arr.But.fresh {B : Nat} {a w w' : World} (h : But B g a w) (hb : But w.heap.size q w w') (hB : B ≤ w.heap.size) (hq : B ≤ q) : But B g a w' :=
  ⟨hb.os.trans h.os, hb.tape.trans h.tape, hb.output.trans h.output, Nat.le_trans h.size hb.size, fun i hi hg => (hb.block i (by omega) (by omega)).trans (h.block i hi hg)⟩
theorem _root_.Go.Proofs.Ytojlhmmmiebbmaa.Arr.But.again {B : Nat} {a w w' : World} (h : But B g a w) (hb : But w.heap.size g w w') (hB : B ≤ w.heap.size) : But B g a w' :=
  ⟨hb.os.trans h.os, hb.tape.trans h.tape, hb.output.trans h.output, Nat.le_trans h.size hb.size, fun i hi hg => (hb.block i (by omega) hg).trans (h.block i hi hg)⟩
end
theorem nil_rows (w : World) : Kd.C (Kd.slice 5 (Kd.int .u8)) w none (([] : List (List Nat)).map cN).length (([] : List (List Nat)).map cN) := Kd.C_nil _ w
/-- what mix leaves: the key, the state -/
def mixK (k v x : List Nat) : List Nat := macOf k (v ++ x)
def mixV (k v x : List Nat) : List Nat := macOf (mixK k v x) v
/-- code, of nothing more -/
theorem code0_calls {g bk bv : Nat} {k v : List Nat} (w : World) (hS : Src w g bk bv k v) :
    Calls Try.prog 36 #[.pointer (some ⟨g, 0, none⟩), .slice none 0 0] w fun e w' => ∃ b, e = .returned (.slice (some ⟨b, 0, none⟩) 32 32) ∧ w.heap.size ≤ b ∧ Kd.C (Kd.int .u8) w' (some ⟨b, 0, none⟩) (cN (macOf k v)).length (cN (macOf k v)) ∧ Below w.heap.size w w' := by
  have h := code_calls none 0 [] w hS (nil_rows w) (fun x hx => by cases hx) (by decide) (fun x hx => by cases hx) (fun _ => ⟨rfl, rfl⟩)
  rw [List.flatten_nil, List.append_nil] at h
  exact h
set_option maxRecDepth 100000 in
set_option maxHeartbeats 8000000 in
theorem mix_calls {g bk bv : Nat} {k v : List Nat} (A1 : Option Addr) (c1 : Nat) (l : List (List Nat)) (w : World) (hS : Src w g bk bv k v) (h1 : Kd.C (Kd.slice 5 (Kd.int .u8)) w A1 (l.map cN).length (l.map cN)) (hbl : ∀ x ∈ l, Bs x) (hl1 : l.length ≤ 20) (hl2 : ∀ x ∈ l, x.length ≤ 1000) (hnil : l = [] → A1 = none ∧ c1 = 0) :
    Calls Try.prog 31 #[.pointer (some ⟨g, 0, none⟩), .slice A1 (l.map cN).length c1] w fun e w' => e = .returned (.tuple #[]) ∧ ∃ bk' bv', Src w' g bk' bv' (mixK k v l.flatten) (mixV k v l.flatten) ∧ But w.heap.size g w w' ∧ w.heap.size ≤ bk' ∧ w.heap.size ≤ bv' := by
  have HC := code_calls A1 c1 l w hS h1 hbl hl1 hl2 hnil
  obtain ⟨m1, hm1⟩ : ∃ m, m = (l.map cN).length := ⟨_, rfl⟩
  rw [← hm1] at HC ⊢
  obtain ⟨K, hK⟩ : ∃ K, K = macOf k (v ++ l.flatten) := ⟨_, rfl⟩
  rw [← hK] at HC
  have HC := Aside0.mk HC
  have HKE : Aside0 (mixK k v l.flatten = K ∧ mixV k v l.flatten = macOf K v) := Aside0.mk ⟨hK.symm, by rw [hK]; rfl⟩
  have HKB : Aside0 (K.length = 32 ∧ Bs K) := Aside0.mk ⟨by rw [hK]; rfl, by rw [hK]; exact macOf_bs _ _⟩
  have HSR := Aside0.mk hS
  clear hS h1 hbl hl1 hl2 hnil hm1 hK
  go_enter Try.func31, Try.ntmps31
  go_upto_region 1 with (((with_reducible refine gate_callee (f := 36) rfl ?_); refine goesL_ (some 7) rfl rfl Try.func36 (by kernel_rfl) rfl #[.pointer (some ⟨g, 0, none⟩), .slice A1 m1 c1] rfl (by (try simp only [List.map_toArray, List.map_cons, List.map_nil]); first | done | rfl) ?_; (with_reducible refine (HC.out).mono ?_); rintro e u1 ⟨b1, rfl, hge1, hc1, hb1⟩; have c0 := (HSR.out.on hb1).c0; have f0 := Row.free (HSR.out.on hb1).row 0; have HX1 := Aside0.mk (And.intro hge1 (And.intro hc1 hb1)); clear hge1 hc1 hb1; refine ⟨_, rfl, ?_⟩))
  clear c0 f0 HC
  have hs2 := (HSR.out.on HX1.out.2.2).setK HX1.out.2.1 HKB.out.1 HKB.out.2 (by have := HSR.out.size; have := HX1.out.1; omega)
  generalize u1.setCell ⟨g, 0, none⟩ (.slice (some ⟨b1, 0, none⟩) 32 32) = u2 at *
  have HS2 := Aside0.mk hs2.1
  have HB2 : Aside0 (But w.heap.size g w u2) := Aside0.mk ((But.of HX1.out.2.2).again hs2.2 HX1.out.2.2.size)
  have HC2 := Aside0.mk (code0_calls u2 hs2.1)
  clear hs2
  go_wp2_with (((with_reducible refine gate_callee (f := 36) rfl ?_); refine goesL_ (some 12) rfl rfl Try.func36 (by kernel_rfl) rfl #[.pointer (some ⟨g, 0, none⟩), .slice none 0 0] rfl (by (try simp only [List.map_toArray, List.map_cons, List.map_nil]); first | done | rfl) ?_; (with_reducible refine (HC2.out).mono ?_); rintro e u3 ⟨b2, rfl, hge1, hc1, hb1⟩; have c0 := (HS2.out.on hb1).c1; have f0 := Row.free (HS2.out.on hb1).row 1; have HX3 := Aside0.mk (And.intro hge1 (And.intro hc1 hb1)); clear hge1 hc1 hb1; refine ⟨_, rfl, ?_⟩))
  clear c0 f0
  have hs4 := (HS2.out.on HX3.out.2.2).setV HX3.out.2.1 rfl (macOf_bs _ _) (by have := HS2.out.size; have := HX3.out.1; omega)
  generalize u3.setCell ⟨g, 1, none⟩ (.slice (some ⟨b2, 0, none⟩) 32 32) = u4 at *
  have HB4 : But w.heap.size g w u4 := (HB2.out.on HX3.out.2.2 HB2.out.size).again hs4.2 (Nat.le_trans HB2.out.size HX3.out.2.2.size)
  go_wp2
  refine bodyPost_end (results_none rfl _ _ _) rfl ?_
  exact ⟨rfl, b1, b2, by rw [HKE.out.1, HKE.out.2]; exact hs4.1, HB4, HX1.out.1, Nat.le_trans HB2.out.size HX3.out.1⟩
set_option maxRecDepth 100000 in
set_option maxHeartbeats 8000000 in
/-- the next number -/
theorem next_calls {g bk bv : Nat} {k v : List Nat} (w : World) (hS : Src w g bk bv k v) :
    Calls Try.prog 17 #[.pointer (some ⟨g, 0, none⟩)] w fun e w' => e = .returned (numV (beN (macOf k v))) ∧ ∃ bk' bv', Src w' g bk' bv' (mixK k (macOf k v) [0]) (mixV k (macOf k v) [0]) ∧ But w.heap.size g w w' ∧ w.heap.size ≤ bk' ∧ w.heap.size ≤ bv' := by
  obtain ⟨V, hV⟩ : ∃ V, V = macOf k v := ⟨_, rfl⟩
  obtain ⟨n, hn⟩ : ∃ n, n = beN V := ⟨_, rfl⟩
  have HV : Aside0 (V.length = 32 ∧ Bs V ∧ (cN V).length = 32 ∧ macOf k v = V ∧ n = beN V) := Aside0.mk ⟨by rw [hV]; rfl, by rw [hV]; exact macOf_bs _ _, by rw [hV, cN_length]; rfl, hV.symm, hn⟩
  rw [← hV, ← hn]
  have HSR := Aside0.mk hS
  have HLT := Aside0.mk hS.lt
  clear hS hV hn
  go_enter Try.func17, Try.ntmps17
  go_upto_region 1 with (fail)
  refine wp_at (w2 := (World.alloc w (.cells (nw 0).toArray 24))) rfl ?_
  obtain ⟨x_0, e_0, h_0, b_0, s_0⟩ := new_num w 0
  rw [e_0]
  have HB : Aside0 (Below w.heap.size w x_0) := Aside0.mk b_0
  have HR : Aside0 (NAt x_0 (w.heap.size) 0) := Aside0.mk h_0
  have HS : Aside0 (w.heap.size + 1 ≤ x_0.heap.size) := Aside0.mk (Nat.le_of_eq s_0.symm)
  clear e_0 h_0 b_0 s_0
  obtain ⟨w1, hw_⟩ : ∃ x, x = x_0 := ⟨_, rfl⟩
  subst hw_
  have HC := code0_calls w1 (HSR.out.on HB.out)
  rw [HV.out.2.2.2.1] at HC
  have HC := Aside0.mk HC
  go_upto_region 2 with (((with_reducible refine gate_callee (f := 36) rfl ?_); refine goesL_ (some 7) rfl rfl Try.func36 (by kernel_rfl) rfl #[.pointer (some ⟨g, 0, none⟩), .slice none 0 0] rfl (by (try simp only [List.map_toArray, List.map_cons, List.map_nil]); first | done | rfl) ?_; (with_reducible refine (HC.out).mono ?_); rintro e u1 ⟨b1, rfl, hge1, hc1, hb1⟩; have c0 := ((HSR.out.on HB.out).on hb1).c1; have f0 := Row.free ((HSR.out.on HB.out).on hb1).row 1; have HX1 := Aside0.mk (And.intro hge1 (And.intro hc1 hb1)); clear hge1 hc1 hb1; refine ⟨_, rfl, ?_⟩))
  clear c0 f0 HC
  have hs2 := ((HSR.out.on HB.out).on HX1.out.2.2).setV HX1.out.2.1 HV.out.1 HV.out.2.1 (by have := HLT.out; have := HX1.out.1; have := HS.out; omega)
  generalize u1.setCell ⟨g, 1, none⟩ (.slice (some ⟨b1, 0, none⟩) 32 32) = u2 at *
  have HS2 := Aside0.mk hs2.1
  have HB2 : Aside0 (But w.heap.size g w u2) := Aside0.mk (((But.of HB.out).on HX1.out.2.2 HB.out.size).again hs2.2 (Nat.le_trans HB.out.size HX1.out.2.2.size))
  have HR2 : Aside0 (NAt u2 w.heap.size 0) := Aside0.mk ((HR.out.on HX1.out.2.2).but hs2.2 (by have := HLT.out; omega))
  have HZ2 : Aside0 (w1.heap.size ≤ u2.heap.size ∧ w1.heap.size ≤ b1 ∧ b1 < u2.heap.size) := Aside0.mk ⟨Nat.le_trans HX1.out.2.2.size hs2.2.size, HX1.out.1, hs2.1.lt.2.2⟩
  have HLO := Go.Proofs.Ytojlhmmmiebbmaa.of_calls (cap := 32) (C_BAt HS2.out.cv HV.out.2.1) (by rw [HV.out.1]; decide)
  rw [HV.out.1, ← HV.out.2.2.2.2] at HLO
  have HLO := Aside0.mk HLO
  have c1 := HS2.out.c1
  clear hs2
  go_upto_region 3 with (first | ((with_reducible refine gate_callee (f := 14) rfl ?_); refine goesL_ (some 15) rfl rfl Try.func14 (by kernel_rfl) rfl #[.slice (some ⟨b1, 0, none⟩) 32 32] rfl (by (try simp only [List.map_toArray, List.map_cons, List.map_nil]); first | done | rfl) ?_; (with_reducible refine (HLO.out).mono ?_); rintro e u3 ⟨rfl, hb3⟩; have HB3 := Aside0.mk hb3; clear hb3; refine ⟨_, rfl, ?_⟩) | ((with_reducible refine gate_dst (N := 3) rfl ?_); refine al_num rfl _ rfl rfl ?_; intro gn u4 egn hn4 hb4; have HB4 := Aside0.mk (bl_on HB3.out hb4 HB3.out.size); have HN4 := Aside0.mk hn4; have HGN : Aside0 (gn = u3.heap.size) := Aside0.mk egn; clear hn4 hb4 egn) | ((with_reducible refine gate_st (y := .tmp 16) rfl ?_); (try simp only [Act.put, List.setIfInBounds_toArray, List.set_cons_zero, List.set_cons_succ]); refine st_num HN4.out rfl _ _ rfl rfl rfl ?_; intro u5 hn5 hb5; have HN5 := Aside0.mk hn5; have HB5 := Aside0.mk hb5; clear hn5 hb5))
  clear c1 HLO
  have HGE : Aside0 (u2.heap.size ≤ gn) := Aside0.mk (by rw [HGN.out]; exact HB3.out.size)
  have HS5 : Aside0 (Src u5 g bk b1 k V) := Aside0.mk ((HS2.out.on HB4.out).but HB5.out (by have := HS2.out.lt; have := HGE.out; omega) (by have := HS2.out.lt; have := HGE.out; omega) (by have := HS2.out.lt; have := HGE.out; omega))
  have HB5' : Aside0 (But w.heap.size g w u5) := Aside0.mk ((HB2.out.on HB4.out HB2.out.size).fresh HB5.out (Nat.le_trans HB2.out.size HB4.out.size) (Nat.le_trans HB2.out.size HGE.out))
  have HR5 : Aside0 (NAt u5 w.heap.size 0) := Aside0.mk ((HR2.out.on HB4.out).but HB5.out (by have := HR2.out.size; have := HGE.out; omega))
  have HNL : Aside0 (gn < u5.heap.size) := Aside0.mk HN5.out.size
  have HRL : Aside0 (w.heap.size < gn) := Aside0.mk (by have := HR2.out.size; have := HGE.out; omega)
  have HGG : Aside0 (g ≠ gn ∧ g ≠ w.heap.size) := Aside0.mk (by have := HLT.out; have := HRL.out; omega)
  clear HN4 HB4 HB5 HGN HGE HB3 HR2 HB2 HS2 HX1 HSR
  have HM : Aside0 (∀ W q q2, Below u5.heap.size u5 W → W.heap[q]? = some (.cells #[.int .u8 0] 5 (0, 0)) → W.heap[q2]? = some (.cells #[.slice (some ⟨q, 0, none⟩) 1 1] 40 (0, 0)) → Calls Try.prog 31 #[.pointer (some ⟨g, 0, none⟩), .slice (some ⟨q2, 0, none⟩) 1 1] W fun e w' => e = .returned (.tuple #[]) ∧ ∃ bk' bv', Src w' g bk' bv' (mixK k V [0]) (mixV k V [0]) ∧ But W.heap.size g W w' ∧ W.heap.size ≤ bk' ∧ W.heap.size ≤ bv') := Aside0.mk (fun W q q2 hb hq hq2 => by
    have hrow : Kd.C (Kd.int .u8) W (some ⟨q, 0, none⟩) (cN [0]).length (cN [0]) := by
      refine Kd.C_of_reads (enc := Value.int .u8) (d := (0 : Int)) (h1 := fun _ => rfl) ⟨rfl, by decide, fun _ => ⟨_, rfl, fun j hj => ?_⟩⟩
      have hj0 : j = 0 := by rw [cN_length] at hj; simp at hj; omega
      subst hj0
      rw [Addr.add_mid]
      simp only [World.cell?, hq]
      rfl
    have hrows := rows_mk (w := W) (g := q2) (T := 40) [[0]] [.slice (some ⟨q, 0, none⟩) 1 1] hq2 (fun i x hx => by
      match i with
      | 0 =>
        injection hx with hx
        subst hx
        exact ⟨_, 1, rfl, Nat.le_refl _, hrow⟩
      | n + 1 => cases hx) (by decide)
    exact mix_calls (some ⟨q2, 0, none⟩) 1 [[0]] W (HS5.out.on hb) hrows (fun x hx => by
      rw [List.mem_singleton.1 hx]
      exact bs_of_mem (fun y hy => by rw [List.mem_singleton.1 hy]; decide)) (by decide) (fun x hx => by rw [List.mem_singleton.1 hx]; decide) (fun h => by cases h))
  go_upto_region 4 with (((with_reducible refine gate_callee (f := 31) rfl ?_); refine goesL_ (some 21) rfl rfl Try.func31 (by kernel_rfl) rfl #[.pointer (some ⟨g, 0, none⟩), .slice (some ⟨u5.heap.size + 1, 0, none⟩) 1 1] rfl (by (try simp only [List.map_toArray, List.map_cons, List.map_nil]); first | done | rfl) ?_; (with_reducible refine (HM.out _ u5.heap.size _ (below_alloc (below_alloc (Below.refl _ _) _) _) ((Below.heap_alloc _ _ _ (by rw [alloc_size]; exact Nat.lt_succ_self _)).trans (heap_alloc_new u5 _)) (by have h := heap_alloc_new (u5.alloc (.cells #[.int .u8 0] 5)) (.cells #[.slice (some ⟨u5.heap.size, 0, none⟩) 1 1] 40); rw [alloc_size] at h; exact h)).mono ?_); rintro e u6 ⟨rfl, bk6, bv6, hs6, hb6, hk6, hv6⟩; have hbW := (below_alloc (below_alloc (Below.refl _ u5) (.cells #[.int .u8 0] 5)) (.cells #[.slice (some ⟨u5.heap.size, 0, none⟩) 1 1] 40)); have HB6 := Aside0.mk ((But.of hbW).again hb6 hbW.size); have HX6 := Aside0.mk (And.intro hs6 (And.intro (Nat.le_trans hbW.size hk6) (Nat.le_trans hbW.size hv6))); clear hs6 hb6 hk6 hv6 hbW; refine ⟨_, rfl, ?_⟩))
  have HN6 : Aside0 (NAt u6 gn n) := Aside0.mk (HN5.out.but HB6.out (fun e => HGG.out.1 e.symm))
  have HR6 : Aside0 (NAt u6 w.heap.size 0) := Aside0.mk (HR5.out.but HB6.out (fun e => HGG.out.2 e.symm))
  have HB6' : Aside0 (But w.heap.size g w u6) := Aside0.mk (HB5'.out.again HB6.out HB5'.out.size)
  have HQ : Aside0 (w.heap.size < bk6 ∧ w.heap.size < bv6) := Aside0.mk (by have := HX6.out.2; have := HNL.out; have := HRL.out; omega)
  go_wp2_with (first | ((with_reducible refine gate_dst (N := 22) rfl ?_); refine ld_num (HN6.out.range) rfl _ rfl rfl ?_) | ((with_reducible refine gate_st (y := .tmp 22) rfl ?_); (try simp only [Act.put, List.setIfInBounds_toArray, List.set_cons_zero, List.set_cons_succ]); refine st_num HR6.out rfl _ _ rfl rfl rfl ?_; intro u7 hn7 hb7; have HR7 := Aside0.mk hn7; have HB7 := Aside0.mk hb7; clear hn7 hb7))
  exact bodyPost_ret (v := numV n) (results_nat rfl rfl HR7.out) rfl ⟨rfl, bk6, bv6, HX6.out.1.but HB7.out (fun e => HGG.out.2 e) (by have := HQ.out; omega) (by have := HQ.out; omega), HB6'.out.fresh HB7.out HB6'.out.size (Nat.le_refl _), Nat.le_of_lt HQ.out.1, Nat.le_of_lt HQ.out.2⟩
end Go.Proofs.Ytojlhmmmiebbmaa.PNonceLists
