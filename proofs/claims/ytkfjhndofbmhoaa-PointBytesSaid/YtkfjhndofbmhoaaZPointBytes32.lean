/- What the proof of PointBytes is made of, part 32. -/
import Derived.Test.YtkfjhndofbmhoaaZPointBytes29
import Derived.Test.YtkfjhndofbmhoaaZPointBytes31
import Derived.Test.YtkfjhndofbmhoaaZPointBytes2
import Derived.Test.YtkfjhndofbmhoaaZPointBytesh
namespace Go.Proofs.Ytkfjhndofbmhoaa
open Go.RowKit Go.Proofs.Ytkfjhndofbmhoaa.Arr Go.Proofs.YtkfjhndofbmhoaaW.PrintWords Go.Proofs.YtkfjhndofbmhoaaW.PrintLast Go.Proofs.YtkfjhndofbmhoaaW.PrintMore
attribute [local go_sem high] eqg_num eqg_num0
set_option linter.unusedVariables false
set_option linter.unusedSimpArgs false
theorem cut_lo {P : Program} (t e : TypeId) {i : TypeInfo} (ht : P.underlying t = some (.slice e)) (hi : P.info? e = some i) (hsz : i.size = 1) (A : Option Addr) (n c m : Nat) (hm : m ≤ n) (W : World) :
  (Instr.slice t (.slice A n c) (some (.int .i64 (m : Int))) none none).run P W = .ok (.slice (if c = m then A else A.map (·.add m)) (n - m) (c - m)) W := by
 have hel : P.elem t = e := by simp [Program.elem, ht]
 have hu : P.underlying t = some (.slice (P.elem t)) := by rw [hel]; exact ht
 rw [run_slice_l W t A n c hu .i64 (m : Int) (Int.natCast_nonneg _) (by omega), hel]
 simp [sizeOf, typeInfo, hi, hsz, sliced, Result.andThen]
theorem cut_hi {P : Program} (t e : TypeId) {i : TypeInfo} (ht : P.underlying t = some (.slice e)) (hi : P.info? e = some i) (hsz : i.size = 1) (A : Option Addr) (n c m : Nat) (hm : m ≤ n) (hc : n ≤ c) (W : World) :
  (Instr.slice t (.slice A n c) none (some (.int .i64 (m : Int))) none).run P W = .ok (.slice A m c) W := by
 have hel : P.elem t = e := by simp [Program.elem, ht]
 have hu : P.underlying t = some (.slice (P.elem t)) := by rw [hel]; exact ht
 have ha : (A.map fun x => x.add 0) = A := by cases A <;> simp [Addr.add]
 rw [run_slice_h W t A n c hu .i64 (m : Int) (Int.natCast_nonneg _) (by omega), hel]
 simp [sizeOf, typeInfo, hi, hsz, sliced, Result.andThen, ha]
section
variable {ops : Array Oper} {rest : List Oper} {op : Oper} {a : Act} {w : World} {Q : Exit → Act → World → Prop} {b o c n : Nat}
theorem rs_hi (h64 : 64 ≤ c) {x : Operand} (ho : op.op = .slice 47 x none (some (.const (.int .i64 32))) none) (hx : a.eval x = .slice (some ⟨b, o, none⟩) 64 c) (w : World) :
  (execOp a.eval op).run Try.prog w = .ok (.value (.slice (some ⟨b, o, none⟩) 32 c)) w := by
 unfold execOp
 rw [ho]
 have ec : a.eval (.const (.int .i64 32)) = .int .i64 32 := rfl
 simp only [hx, ec, Option.map_some, Option.map_none]
 obtain ⟨i, hi, hz, hs4, hby⟩ := info_parts (P := Try.prog) (e := 5) (z := .int .u8 0) (size := 1) (bytes := 1) (by kernel_rfl)
 have h := cut_hi 47 5 (P := Try.prog) (by kernel_rfl) hi hs4 (some ⟨b, o, none⟩) 64 c 32 (by decide) h64 w
 have e : ∀ m : Sem Value, m.run Try.prog w = .ok (.slice (some ⟨b, o, none⟩) 32 c) w → (m >>= fun v => pure (Next.value v)).run Try.prog w = .ok (.value (.slice (some ⟨b, o, none⟩) 32 c)) w := fun m h => by
  simp only [Sem.run_bind, h, Result.andThen_ok]
  rfl
 exact e _ ((run_sliceAt_slice (P := Try.prog) (w := w) 47 _ _ _ _ (by kernel_rfl)).trans h)
theorem sl_hi (h64 : 64 ≤ c) (hgd : op.guard = none) (d : Option Tmp) (hd : op.dst = d) {x : Operand} (ho : op.op = .slice 47 x none (some (.const (.int .i64 32))) none) (hx : a.eval x = .slice (some ⟨b, o, none⟩) 64 c)
  (k : wpList Try.prog ops Q rest (a.put d (.slice (some ⟨b, o, none⟩) 32 c)) w) : wpList Try.prog ops Q (op :: rest) a w :=
 Go.Great.wpList_runTo hgd d hd _ w (rs_hi h64 ho hx w) k
theorem rs_lo (h64 : 64 ≤ c) {x : Operand} (ho : op.op = .slice 47 x (some (.const (.int .i64 32))) none none) (hx : a.eval x = .slice (some ⟨b, o, none⟩) 64 c) (w : World) :
  (execOp a.eval op).run Try.prog w = .ok (.value (.slice (some ⟨b, o + 32, none⟩) 32 (c - 32))) w := by
 unfold execOp
 rw [ho]
 have ec : a.eval (.const (.int .i64 32)) = .int .i64 32 := rfl
 simp only [hx, ec, Option.map_some, Option.map_none]
 obtain ⟨i, hi, hz, hs4, hby⟩ := info_parts (P := Try.prog) (e := 5) (z := .int .u8 0) (size := 1) (bytes := 1) (by kernel_rfl)
 have h := cut_lo 47 5 (P := Try.prog) (by kernel_rfl) hi hs4 (some ⟨b, o, none⟩) 64 c 32 (by decide) w
 rw [if_neg (by omega)] at h
 have e : ∀ m : Sem Value, m.run Try.prog w = .ok (.slice (some ⟨b, o + 32, none⟩) 32 (c - 32)) w → (m >>= fun v => pure (Next.value v)).run Try.prog w = .ok (.value (.slice (some ⟨b, o + 32, none⟩) 32 (c - 32))) w := fun m h => by
  simp only [Sem.run_bind, h, Result.andThen_ok]
  rfl
 exact e _ ((run_sliceAt_slice (P := Try.prog) (w := w) 47 _ _ _ _ (by kernel_rfl)).trans h)
theorem sl_lo (h64 : 64 ≤ c) (hgd : op.guard = none) (d : Option Tmp) (hd : op.dst = d) {x : Operand} (ho : op.op = .slice 47 x (some (.const (.int .i64 32))) none none) (hx : a.eval x = .slice (some ⟨b, o, none⟩) 64 c)
  (k : wpList Try.prog ops Q rest (a.put d (.slice (some ⟨b, o + 32, none⟩) 32 (c - 32))) w) : wpList Try.prog ops Q (op :: rest) a w :=
 Go.Great.wpList_runTo hgd d hd _ w (rs_lo h64 ho hx w) k
end
section
variable {w : World} {b o : Nat} {l : List Nat}
theorem BAt.some_of {A : Option Addr} (h : BAt w A l) (hl : 0 < l.length) : ∃ b o, A = some ⟨b, o, none⟩ := by
 rcases h.1 with h | ⟨b, o, e, _⟩
 ·rw [h] at hl
  cases hl
 ·exact ⟨b, o, e⟩
theorem BAt.take (h : BAt w (some ⟨b, o, none⟩) l) (m : Nat) : BAt w (some ⟨b, o, none⟩) (l.take m) := by
 refine ⟨?_, fun i => ?_⟩
 ·rcases h.1 with h | ⟨b', o', e, hs, hc⟩
  ·rw [h]
   exact .inl (by simp)
  ·refine .inr ⟨b', o', e, hs, fun i hi => ?_⟩
   rw [List.length_take] at hi
   rw [hc i (by omega), List.getD_eq_getElem?_getD, List.getD_eq_getElem?_getD, List.getElem?_take, if_pos (by omega)]
 ·have := h.2 i
  rw [List.getD_eq_getElem?_getD] at this ⊢
  rw [List.getElem?_take]
  split
  ·exact this
  ·decide
theorem BAt.drop (h : BAt w (some ⟨b, o, none⟩) l) (m : Nat) : BAt w (some ⟨b, o + m, none⟩) (l.drop m) := by
 refine ⟨?_, fun i => ?_⟩
 ·rcases h.1 with h | ⟨b', o', e, hs, hc⟩
  ·rw [h]
   exact .inl (by simp)
  ·injection e with e
   injection e with e1 e2
   subst e1
   subst e2
   refine .inr ⟨b, o + m, rfl, hs, fun i hi => ?_⟩
   rw [List.length_drop] at hi
   have := hc (m + i) (by omega)
   rw [← Nat.add_assoc] at this
   rw [this, List.getD_eq_getElem?_getD, List.getD_eq_getElem?_getD, List.getElem?_drop]
 ·have := h.2 (m + i)
  rw [List.getD_eq_getElem?_getD] at this ⊢
  rw [List.getElem?_drop]
  exact this
/-- the two numbers of 64 bytes -/
def b2x (l : List Nat) : Nat := beN (l.take 32)
def b2y (l : List Nat) : Nat := beN (l.drop 32)
theorem b2x_lt (h : BAt w (some ⟨b, o, none⟩) l) (hl : l.length = 64) : b2x l < N256 := by
 have := beN_lt (l.take 32) (h.take 32).2
 rw [List.length_take, hl] at this
 exact Nat.lt_of_lt_of_eq this (by decide +kernel)
theorem b2y_lt (h : BAt w (some ⟨b, o, none⟩) l) (hl : l.length = 64) : b2y l < N256 := by
 have := beN_lt (l.drop 32) (h.drop 32).2
 rw [List.length_drop, hl] at this
 exact Nat.lt_of_lt_of_eq this (by decide +kernel)
theorem pof_hi {c : Nat} (hl : l.length = 64) (hc : 64 ≤ c) (h0 : BAt w (some ⟨b, o, none⟩) l) (u : World) (h : Below w.heap.size w u) : Calls Try.prog 48 #[.slice (some ⟨b, o, none⟩) 32 c] u fun e w' => e = .returned (.tuple #[numV (b2x l), .nilIface]) ∧ Below u.heap.size u w' := by
 have hn : (l.take 32).length = 32 := by rw [List.length_take, hl]; try rfl
 have h1 := of_calls (cap := c) (BAt.below (h0.take 32) h (Nat.le_refl _)) (by rw [hn]; decide)
 rw [hn] at h1
 exact h1
theorem pof_lo {c : Nat} (hl : l.length = 64) (hc : 64 ≤ c) (h0 : BAt w (some ⟨b, o, none⟩) l) (u : World) (h : Below w.heap.size w u) : Calls Try.prog 48 #[.slice (some ⟨b, o + 32, none⟩) 32 (c - 32)] u fun e w' => e = .returned (.tuple #[numV (b2y l), .nilIface]) ∧ Below u.heap.size u w' := by
 have hn : (l.drop 32).length = 32 := by rw [List.length_drop, hl]; try rfl
 have h1 := of_calls (cap := (c - 32)) (BAt.below (h0.drop 32) h (Nat.le_refl _)) (by rw [hn]; decide)
 rw [hn] at h1
 exact h1
theorem rof_hi {c : Nat} (hl : l.length = 64) (hc : 64 ≤ c) (h0 : BAt w (some ⟨b, o, none⟩) l) (u : World) (h : Below w.heap.size w u) : Calls Try.prog 49 #[.slice (some ⟨b, o, none⟩) 32 c] u fun e w' => e = .returned (numV (b2x l)) ∧ Below u.heap.size u w' := by
 have hn : (l.take 32).length = 32 := by rw [List.length_take, hl]; try rfl
 have h1 := rof_calls (cap := c) (BAt.below (h0.take 32) h (Nat.le_refl _)) (by rw [hn]; decide)
 rw [hn] at h1
 exact h1
theorem rof_lo {c : Nat} (hl : l.length = 64) (hc : 64 ≤ c) (h0 : BAt w (some ⟨b, o, none⟩) l) (u : World) (h : Below w.heap.size w u) : Calls Try.prog 49 #[.slice (some ⟨b, o + 32, none⟩) 32 (c - 32)] u fun e w' => e = .returned (numV (b2y l)) ∧ Below u.heap.size u w' := by
 have hn : (l.drop 32).length = 32 := by rw [List.length_drop, hl]; try rfl
 have h1 := rof_calls (cap := (c - 32)) (BAt.below (h0.drop 32) h (Nat.le_refl _)) (by rw [hn]; decide)
 rw [hn] at h1
 exact h1
end
/-- what Parse answers -/
def prV (l : List Nat) : Value := if l.length = 64 ∧ onB (b2x l) (b2y l) false = true then .tuple #[ptV (b2x l) (b2y l) false, .nilIface] else .tuple #[ptV 0 0 false, .iface 38 (.int .i64 2)]
def rrV (l : List Nat) : Value := if l.length = 64 ∧ onB (b2x l) (b2y l) false = true then .tuple #[ptV (b2x l) (b2y l) false, .bool true] else .tuple #[ptV 0 0 false, .bool false]
set_option maxRecDepth 100000 in
set_option maxHeartbeats 8000000 in
theorem pparse_len {A : Option Addr} {l : List Nat} {c : Nat} (w : World) (hn : l.length ≠ 64) :
  Calls Try.prog 27 #[.slice A l.length c] w fun e w' => e = .returned (prV l) ∧ Below w.heap.size w w' := by
 have hres : prV l = .tuple #[ptV 0 0 false, .iface 38 (.int .i64 2)] := by unfold prV; rw [if_neg (fun e => hn e.1)]
 have hd : ((l.length : Int) != 64) = true := by simp; omega
 rw [hres]
 clear hres hn
 go_enter Try.func27, Try.ntmps27
 go_upto_region 1 with (fail)
 refine wp_at (w2 := (World.alloc w (.cells (pw 0 0 false).toArray 26))) rfl ?_
 obtain ⟨x_0, e_0, h_0, b_0, s_0⟩ := new_PtAt w 0 0 false
 rw [e_0]
 have HB : Aside0 (Below w.heap.size w x_0) := Aside0.mk b_0
 have HR : Aside0 (PtAt x_0 (w.heap.size) 0 0 false) := Aside0.mk h_0
 have HS : Aside0 (w.heap.size + 1 ≤ x_0.heap.size) := Aside0.mk (Nat.le_of_eq s_0.symm)
 clear e_0 h_0 b_0 s_0
 obtain ⟨w1, hw_⟩ : ∃ x, x = x_0 := ⟨_, rfl⟩
 subst hw_
 go_upto_region 2 with (fail)
 go_wp2_with (first | ((with_reducible refine gate_st (y := .tmp 12) rfl ?_); (try simp only [aS]); refine st_pt (x := 0) (y := 0) (f := false) HR.out rfl _ _ rfl rfl rfl ?_; intro u1 hn_ hb_; replace HR := Aside0.mk hn_; replace HB := Aside0.mk (bl_but HB.out hb_ HB.out.size (by omega)); replace HS := Aside0.mk (Nat.le_trans HS.out hb_.size); clear hn_ hb_))
 refine bodyPost_ret (v := .tuple #[ptV 0 0 false, .iface 38 (.int .i64 2)]) (results_pt2 rfl rfl rfl HR.out) rfl ⟨rfl, HB.out⟩
set_option maxRecDepth 100000 in
set_option maxHeartbeats 8000000 in
theorem pparse_ok {b o : Nat} {l : List Nat} {c : Nat} (w : World) (hl : l.length = 64) (h64 : 64 ≤ c) (h0 : BAt w (some ⟨b, o, none⟩) l) (hon : onB (b2x l) (b2y l) false = true) :
  Calls Try.prog 27 #[.slice (some ⟨b, o, none⟩) l.length c] w fun e w' => e = .returned (prV l) ∧ Below w.heap.size w w' := by
 have hres : prV l = .tuple #[ptV (b2x l) (b2y l) false, .nilIface] := by unfold prV; rw [if_pos ⟨hl, hon⟩]
 have hx := b2x_lt h0 hl
 have hy := b2y_lt h0 hl
 rw [hres]
 have K1 := Aside0.mk (fun (u : World) (h : Below w.heap.size w u) => pof_hi hl h64 h0 u h)
 have K2 := Aside0.mk (fun (u : World) (h : Below w.heap.size w u) => pof_lo hl h64 h0 u h)
 have K3 := Aside0.mk (fun (u : World) => pOn_calls hx hy false u)
 rw [hl]
 rw [hon] at K3
 generalize b2x l = x at *
 generalize b2y l = y at *
 have H64 : Aside0 (64 ≤ c) := Aside0.mk h64
 clear hres hx hy hon h64 h0 hl
 go_enter Try.func27, Try.ntmps27
 go_upto_region 1 with (fail)
 refine wp_at (w2 := (World.alloc w (.cells (pw 0 0 false).toArray 26))) rfl ?_
 obtain ⟨x_0, e_0, h_0, b_0, s_0⟩ := new_PtAt w 0 0 false
 rw [e_0]
 have HB : Aside0 (Below w.heap.size w x_0) := Aside0.mk b_0
 have HR : Aside0 (PtAt x_0 (w.heap.size) 0 0 false) := Aside0.mk h_0
 have HS : Aside0 (w.heap.size + 1 ≤ x_0.heap.size) := Aside0.mk (Nat.le_of_eq s_0.symm)
 clear e_0 h_0 b_0 s_0
 obtain ⟨w1, hw_⟩ : ∃ x, x = x_0 := ⟨_, rfl⟩
 subst hw_
 go_upto_region 3 with (fail)
 go_upto_region 4 with (first | ((with_reducible refine gate_dst (N := 16) rfl ?_); refine sl_hi (h64 := H64.out) rfl _ rfl rfl rfl ?_) | ((with_reducible refine gate_dst (N := 17) rfl ?_); refine goesL_ (some 17) rfl rfl Try.func48 (by kernel_rfl) rfl #[.slice (some ⟨b, o, none⟩) 32 c] rfl (by (try simp only [List.map_toArray, List.map_cons, List.map_nil]); first | done | rfl) ?_; (with_reducible refine (K1.out _ HB.out).mono ?_); rintro e u2 ⟨rfl, hb_⟩; refine ⟨_, rfl, ?_⟩; replace HR := Aside0.mk (HR.out.on hb_); replace HB := Aside0.mk (bl_on HB.out hb_ HB.out.size); replace HS := Aside0.mk (Nat.le_trans HS.out hb_.size); clear hb_) | ((with_reducible refine gate_dst (N := 4) rfl ?_); refine al_num rfl _ rfl rfl ?_; intro g4 u3 eg_ hn_ hb_; have HXg4 : Aside0 (w.heap.size + 1 ≤ g4) := Aside0.mk (by rw [eg_]; exact HS.out); replace HR := Aside0.mk (HR.out.on hb_); replace HB := Aside0.mk (bl_on HB.out hb_ HB.out.size); replace HS := Aside0.mk (Nat.le_trans HS.out hb_.size); have Hg4 := Aside0.mk hn_; clear hn_ hb_ eg_) | ((with_reducible refine gate_st (y := .tmp 18) rfl ?_); (try simp only [aS]); refine st_num Hg4.out rfl _ _ rfl rfl rfl ?_; intro u4 hn_ hb_; replace HR := Aside0.mk (HR.out.but hb_ (by have := HXg4.out; omega)); replace Hg4 := Aside0.mk hn_; replace HB := Aside0.mk (bl_but HB.out hb_ HB.out.size (by have := HXg4.out; omega)); replace HS := Aside0.mk (Nat.le_trans HS.out hb_.size); clear hn_ hb_))
 go_upto_region 5 with (first | ((with_reducible refine gate_dst (N := 22) rfl ?_); refine sl_lo (h64 := H64.out) rfl _ rfl rfl rfl ?_) | ((with_reducible refine gate_dst (N := 23) rfl ?_); refine goesL_ (some 23) rfl rfl Try.func48 (by kernel_rfl) rfl #[.slice (some ⟨b, o + 32, none⟩) 32 (c - 32)] rfl (by (try simp only [List.map_toArray, List.map_cons, List.map_nil]); first | done | rfl) ?_; (with_reducible refine (K2.out _ HB.out).mono ?_); rintro e u5 ⟨rfl, hb_⟩; refine ⟨_, rfl, ?_⟩; replace HR := Aside0.mk (HR.out.on hb_); replace Hg4 := Aside0.mk (Hg4.out.on hb_); replace HB := Aside0.mk (bl_on HB.out hb_ HB.out.size); replace HS := Aside0.mk (Nat.le_trans HS.out hb_.size); clear hb_) | ((with_reducible refine gate_dst (N := 6) rfl ?_); refine al_num rfl _ rfl rfl ?_; intro g6 u6 eg_ hn_ hb_; have HXg6 : Aside0 (w.heap.size + 1 ≤ g6 ∧ g4 < g6) := Aside0.mk (by rw [eg_]; exact ⟨HS.out, Hg4.out.size⟩); replace HR := Aside0.mk (HR.out.on hb_); replace Hg4 := Aside0.mk (Hg4.out.on hb_); replace HB := Aside0.mk (bl_on HB.out hb_ HB.out.size); replace HS := Aside0.mk (Nat.le_trans HS.out hb_.size); have Hg6 := Aside0.mk hn_; clear hn_ hb_ eg_) | ((with_reducible refine gate_st (y := .tmp 24) rfl ?_); (try simp only [aS]); refine st_num Hg6.out rfl _ _ rfl rfl rfl ?_; intro u7 hn_ hb_; replace HR := Aside0.mk (HR.out.but hb_ (by have := HXg4.out; have := HXg6.out; omega)); replace Hg4 := Aside0.mk (Hg4.out.but hb_ (by have := HXg4.out; have := HXg6.out; omega)); replace Hg6 := Aside0.mk hn_; replace HB := Aside0.mk (bl_but HB.out hb_ HB.out.size (by have := HXg4.out; have := HXg6.out; omega)); replace HS := Aside0.mk (Nat.le_trans HS.out hb_.size); clear hn_ hb_))
 go_upto_region 6 with (first | ((with_reducible refine gate_dst (N := 26) rfl ?_); refine ld_num (Hg4.out.range) rfl _ rfl rfl ?_) | ((with_reducible refine gate_dst (N := 27) rfl ?_); refine ld_num (Hg6.out.range) rfl _ rfl rfl ?_) | ((with_reducible refine gate_dst (N := 28) rfl ?_); refine bd_pt (p := x) (q := y) rfl _ rfl (.tmp 26) (.tmp 27) rfl rfl rfl ?_) | ((with_reducible refine gate_dst (N := 8) rfl ?_); refine al_pt rfl _ rfl rfl ?_; intro g8 u8 eg_ hn_ hb_; have HXg8 : Aside0 (w.heap.size + 1 ≤ g8 ∧ g4 < g8 ∧ g6 < g8) := Aside0.mk (by rw [eg_]; exact ⟨HS.out, Hg4.out.size, Hg6.out.size⟩); replace HR := Aside0.mk (HR.out.on hb_); replace Hg4 := Aside0.mk (Hg4.out.on hb_); replace Hg6 := Aside0.mk (Hg6.out.on hb_); replace HB := Aside0.mk (bl_on HB.out hb_ HB.out.size); replace HS := Aside0.mk (Nat.le_trans HS.out hb_.size); have Hg8 := Aside0.mk hn_; clear hn_ hb_ eg_) | ((with_reducible refine gate_st (y := .tmp 28) rfl ?_); (try simp only [aS]); refine st_pt (x := x) (y := y) (f := false) Hg8.out rfl _ _ rfl rfl rfl ?_; intro u9 hn_ hb_; replace HR := Aside0.mk (HR.out.but hb_ (by have := HXg4.out; have := HXg6.out; have := HXg8.out; omega)); replace Hg4 := Aside0.mk (Hg4.out.but hb_ (by have := HXg4.out; have := HXg6.out; have := HXg8.out; omega)); replace Hg6 := Aside0.mk (Hg6.out.but hb_ (by have := HXg4.out; have := HXg6.out; have := HXg8.out; omega)); replace Hg8 := Aside0.mk hn_; replace HB := Aside0.mk (bl_but HB.out hb_ HB.out.size (by have := HXg4.out; have := HXg6.out; have := HXg8.out; omega)); replace HS := Aside0.mk (Nat.le_trans HS.out hb_.size); clear hn_ hb_))
 go_upto_region 7 with (first | ((with_reducible refine gate_dst (N := 29) rfl ?_); refine ld_pt Hg8.out rfl _ rfl rfl ?_) | ((with_reducible refine gate_dst (N := 30) rfl ?_); refine goesL_ (some 30) rfl rfl Try.func10 (by kernel_rfl) rfl #[ptV x y false] rfl (by (try simp only [List.map_toArray, List.map_cons, List.map_nil]); first | done | rfl) ?_; (with_reducible refine (K3.out _).mono ?_); rintro e u10 ⟨rfl, hb_⟩; refine ⟨_, rfl, ?_⟩; replace HR := Aside0.mk (HR.out.on hb_); replace Hg4 := Aside0.mk (Hg4.out.on hb_); replace Hg6 := Aside0.mk (Hg6.out.on hb_); replace Hg8 := Aside0.mk (Hg8.out.on hb_); replace HB := Aside0.mk (bl_on HB.out hb_ HB.out.size); replace HS := Aside0.mk (Nat.le_trans HS.out hb_.size); clear hb_))
 go_wp2_with (first | ((with_reducible refine gate_dst (N := 31) rfl ?_); refine ld_pt Hg8.out rfl _ rfl rfl ?_) | ((with_reducible refine gate_st (y := .tmp 31) rfl ?_); (try simp only [aS]); refine st_pt (x := x) (y := y) (f := false) HR.out rfl _ _ rfl rfl rfl ?_; intro u11 hn_ hb_; replace Hg4 := Aside0.mk (Hg4.out.but hb_ (by have := HXg4.out; have := HXg6.out; have := HXg8.out; omega)); replace Hg6 := Aside0.mk (Hg6.out.but hb_ (by have := HXg4.out; have := HXg6.out; have := HXg8.out; omega)); replace Hg8 := Aside0.mk (Hg8.out.but hb_ (by have := HXg4.out; have := HXg6.out; have := HXg8.out; omega)); replace HR := Aside0.mk hn_; replace HB := Aside0.mk (bl_but HB.out hb_ HB.out.size (by have := HXg4.out; have := HXg6.out; have := HXg8.out; omega)); replace HS := Aside0.mk (Nat.le_trans HS.out hb_.size); clear hn_ hb_))
 refine bodyPost_ret (v := .tuple #[ptV x y false, .nilIface]) (results_pt2 rfl rfl rfl HR.out) rfl ⟨rfl, HB.out⟩
set_option maxRecDepth 100000 in
set_option maxHeartbeats 8000000 in
theorem pparse_bad {b o : Nat} {l : List Nat} {c : Nat} (w : World) (hl : l.length = 64) (h64 : 64 ≤ c) (h0 : BAt w (some ⟨b, o, none⟩) l) (hon : onB (b2x l) (b2y l) false = false) :
  Calls Try.prog 27 #[.slice (some ⟨b, o, none⟩) l.length c] w fun e w' => e = .returned (prV l) ∧ Below w.heap.size w w' := by
 have hres : prV l = .tuple #[ptV 0 0 false, .iface 38 (.int .i64 2)] := by unfold prV; rw [if_neg (fun e => by rw [hon] at e; exact absurd e.2 (by decide))]
 have hx := b2x_lt h0 hl
 have hy := b2y_lt h0 hl
 rw [hres]
 have K1 := Aside0.mk (fun (u : World) (h : Below w.heap.size w u) => pof_hi hl h64 h0 u h)
 have K2 := Aside0.mk (fun (u : World) (h : Below w.heap.size w u) => pof_lo hl h64 h0 u h)
 have K3 := Aside0.mk (fun (u : World) => pOn_calls hx hy false u)
 rw [hl]
 rw [hon] at K3
 generalize b2x l = x at *
 generalize b2y l = y at *
 have H64 : Aside0 (64 ≤ c) := Aside0.mk h64
 clear hres hx hy hon h64 h0 hl
 go_enter Try.func27, Try.ntmps27
 go_upto_region 1 with (fail)
 refine wp_at (w2 := (World.alloc w (.cells (pw 0 0 false).toArray 26))) rfl ?_
 obtain ⟨x_0, e_0, h_0, b_0, s_0⟩ := new_PtAt w 0 0 false
 rw [e_0]
 have HB : Aside0 (Below w.heap.size w x_0) := Aside0.mk b_0
 have HR : Aside0 (PtAt x_0 (w.heap.size) 0 0 false) := Aside0.mk h_0
 have HS : Aside0 (w.heap.size + 1 ≤ x_0.heap.size) := Aside0.mk (Nat.le_of_eq s_0.symm)
 clear e_0 h_0 b_0 s_0
 obtain ⟨w1, hw_⟩ : ∃ x, x = x_0 := ⟨_, rfl⟩
 subst hw_
 go_upto_region 3 with (fail)
 go_upto_region 4 with (first | ((with_reducible refine gate_dst (N := 16) rfl ?_); refine sl_hi (h64 := H64.out) rfl _ rfl rfl rfl ?_) | ((with_reducible refine gate_dst (N := 17) rfl ?_); refine goesL_ (some 17) rfl rfl Try.func48 (by kernel_rfl) rfl #[.slice (some ⟨b, o, none⟩) 32 c] rfl (by (try simp only [List.map_toArray, List.map_cons, List.map_nil]); first | done | rfl) ?_; (with_reducible refine (K1.out _ HB.out).mono ?_); rintro e u12 ⟨rfl, hb_⟩; refine ⟨_, rfl, ?_⟩; replace HR := Aside0.mk (HR.out.on hb_); replace HB := Aside0.mk (bl_on HB.out hb_ HB.out.size); replace HS := Aside0.mk (Nat.le_trans HS.out hb_.size); clear hb_) | ((with_reducible refine gate_dst (N := 4) rfl ?_); refine al_num rfl _ rfl rfl ?_; intro g4 u13 eg_ hn_ hb_; have HXg4 : Aside0 (w.heap.size + 1 ≤ g4) := Aside0.mk (by rw [eg_]; exact HS.out); replace HR := Aside0.mk (HR.out.on hb_); replace HB := Aside0.mk (bl_on HB.out hb_ HB.out.size); replace HS := Aside0.mk (Nat.le_trans HS.out hb_.size); have Hg4 := Aside0.mk hn_; clear hn_ hb_ eg_) | ((with_reducible refine gate_st (y := .tmp 18) rfl ?_); (try simp only [aS]); refine st_num Hg4.out rfl _ _ rfl rfl rfl ?_; intro u14 hn_ hb_; replace HR := Aside0.mk (HR.out.but hb_ (by have := HXg4.out; omega)); replace Hg4 := Aside0.mk hn_; replace HB := Aside0.mk (bl_but HB.out hb_ HB.out.size (by have := HXg4.out; omega)); replace HS := Aside0.mk (Nat.le_trans HS.out hb_.size); clear hn_ hb_))
 go_upto_region 5 with (first | ((with_reducible refine gate_dst (N := 22) rfl ?_); refine sl_lo (h64 := H64.out) rfl _ rfl rfl rfl ?_) | ((with_reducible refine gate_dst (N := 23) rfl ?_); refine goesL_ (some 23) rfl rfl Try.func48 (by kernel_rfl) rfl #[.slice (some ⟨b, o + 32, none⟩) 32 (c - 32)] rfl (by (try simp only [List.map_toArray, List.map_cons, List.map_nil]); first | done | rfl) ?_; (with_reducible refine (K2.out _ HB.out).mono ?_); rintro e u15 ⟨rfl, hb_⟩; refine ⟨_, rfl, ?_⟩; replace HR := Aside0.mk (HR.out.on hb_); replace Hg4 := Aside0.mk (Hg4.out.on hb_); replace HB := Aside0.mk (bl_on HB.out hb_ HB.out.size); replace HS := Aside0.mk (Nat.le_trans HS.out hb_.size); clear hb_) | ((with_reducible refine gate_dst (N := 6) rfl ?_); refine al_num rfl _ rfl rfl ?_; intro g6 u16 eg_ hn_ hb_; have HXg6 : Aside0 (w.heap.size + 1 ≤ g6 ∧ g4 < g6) := Aside0.mk (by rw [eg_]; exact ⟨HS.out, Hg4.out.size⟩); replace HR := Aside0.mk (HR.out.on hb_); replace Hg4 := Aside0.mk (Hg4.out.on hb_); replace HB := Aside0.mk (bl_on HB.out hb_ HB.out.size); replace HS := Aside0.mk (Nat.le_trans HS.out hb_.size); have Hg6 := Aside0.mk hn_; clear hn_ hb_ eg_) | ((with_reducible refine gate_st (y := .tmp 24) rfl ?_); (try simp only [aS]); refine st_num Hg6.out rfl _ _ rfl rfl rfl ?_; intro u17 hn_ hb_; replace HR := Aside0.mk (HR.out.but hb_ (by have := HXg4.out; have := HXg6.out; omega)); replace Hg4 := Aside0.mk (Hg4.out.but hb_ (by have := HXg4.out; have := HXg6.out; omega)); replace Hg6 := Aside0.mk hn_; replace HB := Aside0.mk (bl_but HB.out hb_ HB.out.size (by have := HXg4.out; have := HXg6.out; omega)); replace HS := Aside0.mk (Nat.le_trans HS.out hb_.size); clear hn_ hb_))
 go_upto_region 6 with (first | ((with_reducible refine gate_dst (N := 26) rfl ?_); refine ld_num (Hg4.out.range) rfl _ rfl rfl ?_) | ((with_reducible refine gate_dst (N := 27) rfl ?_); refine ld_num (Hg6.out.range) rfl _ rfl rfl ?_) | ((with_reducible refine gate_dst (N := 28) rfl ?_); refine bd_pt (p := x) (q := y) rfl _ rfl (.tmp 26) (.tmp 27) rfl rfl rfl ?_) | ((with_reducible refine gate_dst (N := 8) rfl ?_); refine al_pt rfl _ rfl rfl ?_; intro g8 u18 eg_ hn_ hb_; have HXg8 : Aside0 (w.heap.size + 1 ≤ g8 ∧ g4 < g8 ∧ g6 < g8) := Aside0.mk (by rw [eg_]; exact ⟨HS.out, Hg4.out.size, Hg6.out.size⟩); replace HR := Aside0.mk (HR.out.on hb_); replace Hg4 := Aside0.mk (Hg4.out.on hb_); replace Hg6 := Aside0.mk (Hg6.out.on hb_); replace HB := Aside0.mk (bl_on HB.out hb_ HB.out.size); replace HS := Aside0.mk (Nat.le_trans HS.out hb_.size); have Hg8 := Aside0.mk hn_; clear hn_ hb_ eg_) | ((with_reducible refine gate_st (y := .tmp 28) rfl ?_); (try simp only [aS]); refine st_pt (x := x) (y := y) (f := false) Hg8.out rfl _ _ rfl rfl rfl ?_; intro u19 hn_ hb_; replace HR := Aside0.mk (HR.out.but hb_ (by have := HXg4.out; have := HXg6.out; have := HXg8.out; omega)); replace Hg4 := Aside0.mk (Hg4.out.but hb_ (by have := HXg4.out; have := HXg6.out; have := HXg8.out; omega)); replace Hg6 := Aside0.mk (Hg6.out.but hb_ (by have := HXg4.out; have := HXg6.out; have := HXg8.out; omega)); replace Hg8 := Aside0.mk hn_; replace HB := Aside0.mk (bl_but HB.out hb_ HB.out.size (by have := HXg4.out; have := HXg6.out; have := HXg8.out; omega)); replace HS := Aside0.mk (Nat.le_trans HS.out hb_.size); clear hn_ hb_))
 go_upto_region 8 with (first | ((with_reducible refine gate_dst (N := 29) rfl ?_); refine ld_pt Hg8.out rfl _ rfl rfl ?_) | ((with_reducible refine gate_dst (N := 30) rfl ?_); refine goesL_ (some 30) rfl rfl Try.func10 (by kernel_rfl) rfl #[ptV x y false] rfl (by (try simp only [List.map_toArray, List.map_cons, List.map_nil]); first | done | rfl) ?_; (with_reducible refine (K3.out _).mono ?_); rintro e u20 ⟨rfl, hb_⟩; refine ⟨_, rfl, ?_⟩; replace HR := Aside0.mk (HR.out.on hb_); replace Hg4 := Aside0.mk (Hg4.out.on hb_); replace Hg6 := Aside0.mk (Hg6.out.on hb_); replace Hg8 := Aside0.mk (Hg8.out.on hb_); replace HB := Aside0.mk (bl_on HB.out hb_ HB.out.size); replace HS := Aside0.mk (Nat.le_trans HS.out hb_.size); clear hb_))
 go_wp2_with (first | ((with_reducible refine gate_st (y := .tmp 32) rfl ?_); (try simp only [aS]); refine st_pt (x := 0) (y := 0) (f := false) HR.out rfl _ _ rfl rfl rfl ?_; intro u21 hn_ hb_; replace Hg4 := Aside0.mk (Hg4.out.but hb_ (by have := HXg4.out; have := HXg6.out; have := HXg8.out; omega)); replace Hg6 := Aside0.mk (Hg6.out.but hb_ (by have := HXg4.out; have := HXg6.out; have := HXg8.out; omega)); replace Hg8 := Aside0.mk (Hg8.out.but hb_ (by have := HXg4.out; have := HXg6.out; have := HXg8.out; omega)); replace HR := Aside0.mk hn_; replace HB := Aside0.mk (bl_but HB.out hb_ HB.out.size (by have := HXg4.out; have := HXg6.out; have := HXg8.out; omega)); replace HS := Aside0.mk (Nat.le_trans HS.out hb_.size); clear hn_ hb_))
 refine bodyPost_ret (v := .tuple #[ptV 0 0 false, .iface 38 (.int .i64 2)]) (results_pt2 rfl rfl rfl HR.out) rfl ⟨rfl, HB.out⟩
theorem pparse_calls {A : Option Addr} {l : List Nat} {c : Nat} (w : World) (h0 : BAt w A l) (hc : l.length ≤ c) :
  Calls Try.prog 27 #[.slice A l.length c] w fun e w' => e = .returned (prV l) ∧ Below w.heap.size w w' := by
 by_cases hl : l.length = 64
 ·obtain ⟨b, o, rfl⟩ := h0.some_of (by omega)
  cases hon : onB (b2x l) (b2y l) false
  ·exact pparse_bad w hl (by omega) h0 hon
  ·exact pparse_ok w hl (by omega) h0 hon
 ·exact pparse_len w hl
set_option maxRecDepth 100000 in
set_option maxHeartbeats 8000000 in
theorem rparse_len {A : Option Addr} {l : List Nat} {c : Nat} (w : World) (hn : l.length ≠ 64) :
  Calls Try.prog 28 #[.slice A l.length c] w fun e w' => e = .returned (rrV l) ∧ Below w.heap.size w w' := by
 have hres : rrV l = .tuple #[ptV 0 0 false, .bool false] := by unfold rrV; rw [if_neg (fun e => hn e.1)]
 have hd : ((l.length : Int) != 64) = true := by simp; omega
 rw [hres]
 clear hres hn
 go_enter Try.func28, Try.ntmps28
 go_upto_region 1 with (fail)
 refine wp_at (w2 := (World.alloc w (.cells (pw 0 0 false).toArray 26))) rfl ?_
 obtain ⟨x_0, e_0, h_0, b_0, s_0⟩ := new_PtAt w 0 0 false
 rw [e_0]
 have HB : Aside0 (Below w.heap.size w x_0) := Aside0.mk b_0
 have HR : Aside0 (PtAt x_0 (w.heap.size) 0 0 false) := Aside0.mk h_0
 have HS : Aside0 (w.heap.size + 1 ≤ x_0.heap.size) := Aside0.mk (Nat.le_of_eq s_0.symm)
 clear e_0 h_0 b_0 s_0
 obtain ⟨w1, hw_⟩ : ∃ x, x = x_0 := ⟨_, rfl⟩
 subst hw_
 go_upto_region 2 with (fail)
 go_wp2_with (first | ((with_reducible refine gate_st (y := .tmp 9) rfl ?_); (try simp only [aS]); refine st_pt (x := 0) (y := 0) (f := false) HR.out rfl _ _ rfl rfl rfl ?_; intro u22 hn_ hb_; replace HR := Aside0.mk hn_; replace HB := Aside0.mk (bl_but HB.out hb_ HB.out.size (by omega)); replace HS := Aside0.mk (Nat.le_trans HS.out hb_.size); clear hn_ hb_))
 refine bodyPost_ret (v := .tuple #[ptV 0 0 false, .bool false]) (results_pt2 rfl rfl rfl HR.out) rfl ⟨rfl, HB.out⟩
set_option maxRecDepth 100000 in
set_option maxHeartbeats 8000000 in
theorem rparse_ok {b o : Nat} {l : List Nat} {c : Nat} (w : World) (hl : l.length = 64) (h64 : 64 ≤ c) (h0 : BAt w (some ⟨b, o, none⟩) l) (hon : onB (b2x l) (b2y l) false = true) :
  Calls Try.prog 28 #[.slice (some ⟨b, o, none⟩) l.length c] w fun e w' => e = .returned (rrV l) ∧ Below w.heap.size w w' := by
 have hres : rrV l = .tuple #[ptV (b2x l) (b2y l) false, .bool true] := by unfold rrV; rw [if_pos ⟨hl, hon⟩]
 have hx := b2x_lt h0 hl
 have hy := b2y_lt h0 hl
 rw [hres]
 have K1 := Aside0.mk (fun (u : World) (h : Below w.heap.size w u) => rof_hi hl h64 h0 u h)
 have K2 := Aside0.mk (fun (u : World) (h : Below w.heap.size w u) => rof_lo hl h64 h0 u h)
 have K3 := Aside0.mk (fun (u : World) => rOn_calls hx hy false u)
 rw [hl]
 rw [hon] at K3
 generalize b2x l = x at *
 generalize b2y l = y at *
 have H64 : Aside0 (64 ≤ c) := Aside0.mk h64
 clear hres hx hy hon h64 h0 hl
 go_enter Try.func28, Try.ntmps28
 go_upto_region 1 with (fail)
 refine wp_at (w2 := (World.alloc w (.cells (pw 0 0 false).toArray 26))) rfl ?_
 obtain ⟨x_0, e_0, h_0, b_0, s_0⟩ := new_PtAt w 0 0 false
 rw [e_0]
 have HB : Aside0 (Below w.heap.size w x_0) := Aside0.mk b_0
 have HR : Aside0 (PtAt x_0 (w.heap.size) 0 0 false) := Aside0.mk h_0
 have HS : Aside0 (w.heap.size + 1 ≤ x_0.heap.size) := Aside0.mk (Nat.le_of_eq s_0.symm)
 clear e_0 h_0 b_0 s_0
 obtain ⟨w1, hw_⟩ : ∃ x, x = x_0 := ⟨_, rfl⟩
 subst hw_
 go_upto_region 3 with (fail)
 refine start_ (n := 9) (S := fun w' => Below w1.heap.size w1 w') (ds := [8]) (bs 9 0) (by kernel_rfl) rfl rfl ((Below.refl _ _).drew) (fun hHeld => ?_)
 refine pu_ 0 10 (bs 9 1) ?_ ?_ ?_ ?_ ?_
 rotate_left
 ·intro w'
  go_simp
  with_reducible rfl
 rotate_left
 ·simp only [aS, i64_w, i32_w]
  rfl
 refine pu_ 3 13 (bs 9 9) ?_ ?_ ?_ ?_ ?_
 rotate_left
 ·intro w'
  go_simp
  with_reducible rfl
 rotate_left
 ·simp only [aS, i64_w, i32_w]
  rfl
 refine join_ (σ := Nat) 1 (bs 9 255) (fun s => [(4, .pointer (some ⟨s, 0, none⟩)), (12, numV x), (15, numV y), (16, ptV x y false), (11, .slice (some ⟨b, o, none⟩) 32 c), (14, .slice (some ⟨b, o + 32, none⟩) 32 (c - 32))]) (fun s w' => Below w1.heap.size w1 w' ∧ PtAt w' s 0 0 false ∧ w1.heap.size ≤ s) ?_ ?_
 rotate_left
 ·intro hCont
  refine three_ (i := 1) (j := 4) (k := 7) (Ni := some 11) (Nj := some 14) (Nk := some 4) (bs 9 11) (bs 9 25) (bs 9 137) rfl rfl rfl rfl rfl rfl (by kernel_rfl) (by decide) (by decide) (by decide) (fun K hK => ?_) (fun K hK => ?_) (fun K hK => ?_)
  ·skip
   refine value_ (w1 := _) (v := .slice (some ⟨b, o, none⟩) 32 c) (by rfl) rfl (rs_hi (x := .tmp 10) H64.out rfl rfl _) ?_
   refine hK.out _ _ (hHeld) (fun hHeld => ?_)
   clear hK K
   refine nm_ (some 11) ?_
   refine three_ (i := 2) (j := 4) (k := 7) (Ni := some 12) (Nj := some 14) (Nk := some 4) (bs 9 15) (bs 9 27) (bs 9 139) rfl rfl rfl rfl rfl rfl (by kernel_rfl) (by decide) (by decide) (by decide) (fun K hK => ?_) (fun K hK => ?_) (fun K hK => ?_)
   ·skip
    refine gs_ Try.func49 #[.slice (some ⟨b, o, none⟩) 32 c] rfl ?_
    with_reducible refine (K1.out _ (bl_on HB.out hHeld HB.out.size)).mono ?_
    rintro e u23 ⟨rfl, hb_u23⟩
    refine ⟨_, rfl, ?_⟩
    have hq_u23 := bl_on hHeld hb_u23 hHeld.size
    refine hK.out _ _ (hq_u23) (fun hHeld => ?_)
    clear hK K
    refine nm_ (some 12) ?_
    refine tw_ 4 7 (some 14) (some 4) (bs 9 31) (bs 9 143) rfl rfl (fun K hK => ?_) (fun K hK => ?_)
    ·skip
     refine value_ (w1 := _) (v := .slice (some ⟨b, o + 32, none⟩) 32 (c - 32)) (by rfl) rfl (rs_lo (x := .tmp 13) H64.out rfl rfl _) ?_
     refine hK.out _ _ (hHeld) (fun hHeld => ?_)
     clear hK K
     refine nm_ (some 14) ?_
     refine tw_ 5 7 (some 15) (some 4) (bs 9 63) (bs 9 159) rfl rfl (fun K hK => ?_) (fun K hK => ?_)
     ·skip
      refine gs_ Try.func49 #[.slice (some ⟨b, o + 32, none⟩) 32 (c - 32)] rfl ?_
      with_reducible refine (K2.out _ (bl_on HB.out hHeld HB.out.size)).mono ?_
      rintro e u24 ⟨rfl, hb_u24⟩
      refine ⟨_, rfl, ?_⟩
      have hq_u24 := bl_on hHeld hb_u24 hHeld.size
      refine hK.out _ _ (hq_u24) (fun hHeld => ?_)
      clear hK K
      refine nm_ (some 15) ?_
      refine tw_ 6 7 (some 16) (some 4) (bs 9 127) (bs 9 191) rfl rfl (fun K hK => ?_) (fun K hK => ?_)
      ·skip
       refine value_ (w1 := _) (v := ptV x y false) (by rfl) rfl (rb_pt _ (.tmp 12) (.tmp 15) rfl rfl rfl) ?_
       refine hK.out _ _ (hHeld) (fun hHeld => ?_)
       clear hK K
       refine nm_ (some 16) ?_
       refine on1_ 7 (some 4) (bs 9 255) rfl fun K hK => ?_
       refine value_ (w1 := ?_) (v := ?_) (by rfl) rfl ?_ ?_
       rotate_left 2
       ·go_simp
        constructor
        ·rfl
        ·rfl
       have hzg4 : PtAt (World.alloc u24 (.cells (pw 0 0 false).toArray 26)) (u24.heap.size) 0 0 false := by have h_ := Row.new u24 26 (pw 0 0 false); first | exact h_ | (simp only [alloc_sz] at h_; exact h_) | omega
       have hsg4 : w1.heap.size ≤ u24.heap.size := by have h_ := hHeld.size; first | exact h_ | (simp only [alloc_sz] at h_; exact h_) | omega
       refine hK.out _ _ (below_alloc hHeld _) (fun hHeld => ?_)
       clear hK K
       refine nm_ (some 4) ?_
       exact norm_ (by simp only [putAll, aS]) (hCont (u24.heap.size) _ ⟨hHeld, hzg4, hsg4⟩)
      ·skip
       refine value_ (w1 := ?_) (v := ?_) (by rfl) rfl ?_ ?_
       rotate_left 2
       ·go_simp
        constructor
        ·rfl
        ·rfl
       have hzg4 : PtAt (World.alloc u24 (.cells (pw 0 0 false).toArray 26)) (u24.heap.size) 0 0 false := by have h_ := Row.new u24 26 (pw 0 0 false); first | exact h_ | (simp only [alloc_sz] at h_; exact h_) | omega
       have hsg4 : w1.heap.size ≤ u24.heap.size := by have h_ := hHeld.size; first | exact h_ | (simp only [alloc_sz] at h_; exact h_) | omega
       refine hK.out _ _ (below_alloc hHeld _) (fun hHeld => ?_)
       clear hK K
       refine nm_ (some 4) ?_
       refine on1_ 6 (some 16) (bs 9 255) rfl fun K hK => ?_
       refine value_ (w1 := _) (v := ptV x y false) (by rfl) rfl (rb_pt _ (.tmp 12) (.tmp 15) rfl rfl rfl) ?_
       refine hK.out _ _ (hHeld) (fun hHeld => ?_)
       clear hK K
       refine nm_ (some 16) ?_
       exact norm_ (by simp only [putAll, aS]) (hCont (u24.heap.size) _ ⟨hHeld, hzg4, hsg4⟩)
     ·skip
      refine value_ (w1 := ?_) (v := ?_) (by rfl) rfl ?_ ?_
      rotate_left 2
      ·go_simp
       constructor
       ·rfl
       ·rfl
      have hzg4 : PtAt (World.alloc u23 (.cells (pw 0 0 false).toArray 26)) (u23.heap.size) 0 0 false := by have h_ := Row.new u23 26 (pw 0 0 false); first | exact h_ | (simp only [alloc_sz] at h_; exact h_) | omega
      have hsg4 : w1.heap.size ≤ u23.heap.size := by have h_ := hHeld.size; first | exact h_ | (simp only [alloc_sz] at h_; exact h_) | omega
      refine hK.out _ _ (below_alloc hHeld _) (fun hHeld => ?_)
      clear hK K
      refine nm_ (some 4) ?_
      refine on1_ 5 (some 15) (bs 9 191) rfl fun K hK => ?_
      refine gs_ Try.func49 #[.slice (some ⟨b, o + 32, none⟩) 32 (c - 32)] rfl ?_
      with_reducible refine (K2.out _ (bl_on HB.out hHeld HB.out.size)).mono ?_
      rintro e u24 ⟨rfl, hb_u24⟩
      refine ⟨_, rfl, ?_⟩
      have hq_u24 := bl_on hHeld hb_u24 hHeld.size
      replace hzg4 := hzg4.on hb_u24
      refine hK.out _ _ (hq_u24) (fun hHeld => ?_)
      clear hK K
      refine nm_ (some 15) ?_
      refine on1_ 6 (some 16) (bs 9 255) rfl fun K hK => ?_
      refine value_ (w1 := _) (v := ptV x y false) (by rfl) rfl (rb_pt _ (.tmp 12) (.tmp 15) rfl rfl rfl) ?_
      refine hK.out _ _ (hHeld) (fun hHeld => ?_)
      clear hK K
      refine nm_ (some 16) ?_
      exact norm_ (by simp only [putAll, aS]) (hCont (u23.heap.size) _ ⟨hHeld, hzg4, hsg4⟩)
    ·skip
     refine value_ (w1 := ?_) (v := ?_) (by rfl) rfl ?_ ?_
     rotate_left 2
     ·go_simp
      constructor
      ·rfl
      ·rfl
     have hzg4 : PtAt (World.alloc u23 (.cells (pw 0 0 false).toArray 26)) (u23.heap.size) 0 0 false := by have h_ := Row.new u23 26 (pw 0 0 false); first | exact h_ | (simp only [alloc_sz] at h_; exact h_) | omega
     have hsg4 : w1.heap.size ≤ u23.heap.size := by have h_ := hHeld.size; first | exact h_ | (simp only [alloc_sz] at h_; exact h_) | omega
     refine hK.out _ _ (below_alloc hHeld _) (fun hHeld => ?_)
     clear hK K
     refine nm_ (some 4) ?_
     refine on1_ 4 (some 14) (bs 9 159) rfl fun K hK => ?_
     refine value_ (w1 := _) (v := .slice (some ⟨b, o + 32, none⟩) 32 (c - 32)) (by rfl) rfl (rs_lo (x := .tmp 13) H64.out rfl rfl _) ?_
     refine hK.out _ _ (hHeld) (fun hHeld => ?_)
     clear hK K
     refine nm_ (some 14) ?_
     refine on1_ 5 (some 15) (bs 9 191) rfl fun K hK => ?_
     refine gs_ Try.func49 #[.slice (some ⟨b, o + 32, none⟩) 32 (c - 32)] rfl ?_
     with_reducible refine (K2.out _ (bl_on HB.out hHeld HB.out.size)).mono ?_
     rintro e u24 ⟨rfl, hb_u24⟩
     refine ⟨_, rfl, ?_⟩
     have hq_u24 := bl_on hHeld hb_u24 hHeld.size
     replace hzg4 := hzg4.on hb_u24
     refine hK.out _ _ (hq_u24) (fun hHeld => ?_)
     clear hK K
     refine nm_ (some 15) ?_
     refine on1_ 6 (some 16) (bs 9 255) rfl fun K hK => ?_
     refine value_ (w1 := _) (v := ptV x y false) (by rfl) rfl (rb_pt _ (.tmp 12) (.tmp 15) rfl rfl rfl) ?_
     refine hK.out _ _ (hHeld) (fun hHeld => ?_)
     clear hK K
     refine nm_ (some 16) ?_
     exact norm_ (by simp only [putAll, aS]) (hCont (u23.heap.size) _ ⟨hHeld, hzg4, hsg4⟩)
   ·skip
    refine value_ (w1 := _) (v := .slice (some ⟨b, o + 32, none⟩) 32 (c - 32)) (by rfl) rfl (rs_lo (x := .tmp 13) H64.out rfl rfl _) ?_
    refine hK.out _ _ (hHeld) (fun hHeld => ?_)
    clear hK K
    refine nm_ (some 14) ?_
    refine tw_ 2 7 (some 12) (some 4) (bs 9 31) (bs 9 155) rfl rfl (fun K hK => ?_) (fun K hK => ?_)
    ·skip
     refine gs_ Try.func49 #[.slice (some ⟨b, o, none⟩) 32 c] rfl ?_
     with_reducible refine (K1.out _ (bl_on HB.out hHeld HB.out.size)).mono ?_
     rintro e u23 ⟨rfl, hb_u23⟩
     refine ⟨_, rfl, ?_⟩
     have hq_u23 := bl_on hHeld hb_u23 hHeld.size
     refine hK.out _ _ (hq_u23) (fun hHeld => ?_)
     clear hK K
     refine nm_ (some 12) ?_
     refine tw_ 5 7 (some 15) (some 4) (bs 9 63) (bs 9 159) rfl rfl (fun K hK => ?_) (fun K hK => ?_)
     ·skip
      refine gs_ Try.func49 #[.slice (some ⟨b, o + 32, none⟩) 32 (c - 32)] rfl ?_
      with_reducible refine (K2.out _ (bl_on HB.out hHeld HB.out.size)).mono ?_
      rintro e u24 ⟨rfl, hb_u24⟩
      refine ⟨_, rfl, ?_⟩
      have hq_u24 := bl_on hHeld hb_u24 hHeld.size
      refine hK.out _ _ (hq_u24) (fun hHeld => ?_)
      clear hK K
      refine nm_ (some 15) ?_
      refine tw_ 6 7 (some 16) (some 4) (bs 9 127) (bs 9 191) rfl rfl (fun K hK => ?_) (fun K hK => ?_)
      ·skip
       refine value_ (w1 := _) (v := ptV x y false) (by rfl) rfl (rb_pt _ (.tmp 12) (.tmp 15) rfl rfl rfl) ?_
       refine hK.out _ _ (hHeld) (fun hHeld => ?_)
       clear hK K
       refine nm_ (some 16) ?_
       refine on1_ 7 (some 4) (bs 9 255) rfl fun K hK => ?_
       refine value_ (w1 := ?_) (v := ?_) (by rfl) rfl ?_ ?_
       rotate_left 2
       ·go_simp
        constructor
        ·rfl
        ·rfl
       have hzg4 : PtAt (World.alloc u24 (.cells (pw 0 0 false).toArray 26)) (u24.heap.size) 0 0 false := by have h_ := Row.new u24 26 (pw 0 0 false); first | exact h_ | (simp only [alloc_sz] at h_; exact h_) | omega
       have hsg4 : w1.heap.size ≤ u24.heap.size := by have h_ := hHeld.size; first | exact h_ | (simp only [alloc_sz] at h_; exact h_) | omega
       refine hK.out _ _ (below_alloc hHeld _) (fun hHeld => ?_)
       clear hK K
       refine nm_ (some 4) ?_
       exact norm_ (by simp only [putAll, aS]) (hCont (u24.heap.size) _ ⟨hHeld, hzg4, hsg4⟩)
      ·skip
       refine value_ (w1 := ?_) (v := ?_) (by rfl) rfl ?_ ?_
       rotate_left 2
       ·go_simp
        constructor
        ·rfl
        ·rfl
       have hzg4 : PtAt (World.alloc u24 (.cells (pw 0 0 false).toArray 26)) (u24.heap.size) 0 0 false := by have h_ := Row.new u24 26 (pw 0 0 false); first | exact h_ | (simp only [alloc_sz] at h_; exact h_) | omega
       have hsg4 : w1.heap.size ≤ u24.heap.size := by have h_ := hHeld.size; first | exact h_ | (simp only [alloc_sz] at h_; exact h_) | omega
       refine hK.out _ _ (below_alloc hHeld _) (fun hHeld => ?_)
       clear hK K
       refine nm_ (some 4) ?_
       refine on1_ 6 (some 16) (bs 9 255) rfl fun K hK => ?_
       refine value_ (w1 := _) (v := ptV x y false) (by rfl) rfl (rb_pt _ (.tmp 12) (.tmp 15) rfl rfl rfl) ?_
       refine hK.out _ _ (hHeld) (fun hHeld => ?_)
       clear hK K
       refine nm_ (some 16) ?_
       exact norm_ (by simp only [putAll, aS]) (hCont (u24.heap.size) _ ⟨hHeld, hzg4, hsg4⟩)
     ·skip
      refine value_ (w1 := ?_) (v := ?_) (by rfl) rfl ?_ ?_
      rotate_left 2
      ·go_simp
       constructor
       ·rfl
       ·rfl
      have hzg4 : PtAt (World.alloc u23 (.cells (pw 0 0 false).toArray 26)) (u23.heap.size) 0 0 false := by have h_ := Row.new u23 26 (pw 0 0 false); first | exact h_ | (simp only [alloc_sz] at h_; exact h_) | omega
      have hsg4 : w1.heap.size ≤ u23.heap.size := by have h_ := hHeld.size; first | exact h_ | (simp only [alloc_sz] at h_; exact h_) | omega
      refine hK.out _ _ (below_alloc hHeld _) (fun hHeld => ?_)
      clear hK K
      refine nm_ (some 4) ?_
      refine on1_ 5 (some 15) (bs 9 191) rfl fun K hK => ?_
      refine gs_ Try.func49 #[.slice (some ⟨b, o + 32, none⟩) 32 (c - 32)] rfl ?_
      with_reducible refine (K2.out _ (bl_on HB.out hHeld HB.out.size)).mono ?_
      rintro e u24 ⟨rfl, hb_u24⟩
      refine ⟨_, rfl, ?_⟩
      have hq_u24 := bl_on hHeld hb_u24 hHeld.size
      replace hzg4 := hzg4.on hb_u24
      refine hK.out _ _ (hq_u24) (fun hHeld => ?_)
      clear hK K
      refine nm_ (some 15) ?_
      refine on1_ 6 (some 16) (bs 9 255) rfl fun K hK => ?_
      refine value_ (w1 := _) (v := ptV x y false) (by rfl) rfl (rb_pt _ (.tmp 12) (.tmp 15) rfl rfl rfl) ?_
      refine hK.out _ _ (hHeld) (fun hHeld => ?_)
      clear hK K
      refine nm_ (some 16) ?_
      exact norm_ (by simp only [putAll, aS]) (hCont (u23.heap.size) _ ⟨hHeld, hzg4, hsg4⟩)
    ·skip
     refine value_ (w1 := ?_) (v := ?_) (by rfl) rfl ?_ ?_
     rotate_left 2
     ·go_simp
      constructor
      ·rfl
      ·rfl
     have hzg4 : PtAt (World.alloc (World.drew w1) (.cells (pw 0 0 false).toArray 26)) (w1.heap.size) 0 0 false := by have h_ := Row.new (World.drew w1) 26 (pw 0 0 false); first | exact h_ | (simp only [alloc_sz] at h_; exact h_) | omega
     have hsg4 : w1.heap.size ≤ w1.heap.size := by have h_ := hHeld.size; first | exact h_ | (simp only [alloc_sz] at h_; exact h_) | omega
     refine hK.out _ _ (below_alloc hHeld _) (fun hHeld => ?_)
     clear hK K
     refine nm_ (some 4) ?_
     refine on1_ 2 (some 12) (bs 9 159) rfl fun K hK => ?_
     refine gs_ Try.func49 #[.slice (some ⟨b, o, none⟩) 32 c] rfl ?_
     with_reducible refine (K1.out _ (bl_on HB.out hHeld HB.out.size)).mono ?_
     rintro e u23 ⟨rfl, hb_u23⟩
     refine ⟨_, rfl, ?_⟩
     have hq_u23 := bl_on hHeld hb_u23 hHeld.size
     replace hzg4 := hzg4.on hb_u23
     refine hK.out _ _ (hq_u23) (fun hHeld => ?_)
     clear hK K
     refine nm_ (some 12) ?_
     refine on1_ 5 (some 15) (bs 9 191) rfl fun K hK => ?_
     refine gs_ Try.func49 #[.slice (some ⟨b, o + 32, none⟩) 32 (c - 32)] rfl ?_
     with_reducible refine (K2.out _ (bl_on HB.out hHeld HB.out.size)).mono ?_
     rintro e u24 ⟨rfl, hb_u24⟩
     refine ⟨_, rfl, ?_⟩
     have hq_u24 := bl_on hHeld hb_u24 hHeld.size
     replace hzg4 := hzg4.on hb_u24
     refine hK.out _ _ (hq_u24) (fun hHeld => ?_)
     clear hK K
     refine nm_ (some 15) ?_
     refine on1_ 6 (some 16) (bs 9 255) rfl fun K hK => ?_
     refine value_ (w1 := _) (v := ptV x y false) (by rfl) rfl (rb_pt _ (.tmp 12) (.tmp 15) rfl rfl rfl) ?_
     refine hK.out _ _ (hHeld) (fun hHeld => ?_)
     clear hK K
     refine nm_ (some 16) ?_
     exact norm_ (by simp only [putAll, aS]) (hCont (w1.heap.size) _ ⟨hHeld, hzg4, hsg4⟩)
   ·skip
    refine value_ (w1 := ?_) (v := ?_) (by rfl) rfl ?_ ?_
    rotate_left 2
    ·go_simp
     constructor
     ·rfl
     ·rfl
    have hzg4 : PtAt (World.alloc (World.drew w1) (.cells (pw 0 0 false).toArray 26)) (w1.heap.size) 0 0 false := by have h_ := Row.new (World.drew w1) 26 (pw 0 0 false); first | exact h_ | (simp only [alloc_sz] at h_; exact h_) | omega
    have hsg4 : w1.heap.size ≤ w1.heap.size := by have h_ := hHeld.size; first | exact h_ | (simp only [alloc_sz] at h_; exact h_) | omega
    refine hK.out _ _ (below_alloc hHeld _) (fun hHeld => ?_)
    clear hK K
    refine nm_ (some 4) ?_
    refine tw_ 2 4 (some 12) (some 14) (bs 9 143) (bs 9 155) rfl rfl (fun K hK => ?_) (fun K hK => ?_)
    ·skip
     refine gs_ Try.func49 #[.slice (some ⟨b, o, none⟩) 32 c] rfl ?_
     with_reducible refine (K1.out _ (bl_on HB.out hHeld HB.out.size)).mono ?_
     rintro e u23 ⟨rfl, hb_u23⟩
     refine ⟨_, rfl, ?_⟩
     have hq_u23 := bl_on hHeld hb_u23 hHeld.size
     replace hzg4 := hzg4.on hb_u23
     refine hK.out _ _ (hq_u23) (fun hHeld => ?_)
     clear hK K
     refine nm_ (some 12) ?_
     refine on1_ 4 (some 14) (bs 9 159) rfl fun K hK => ?_
     refine value_ (w1 := _) (v := .slice (some ⟨b, o + 32, none⟩) 32 (c - 32)) (by rfl) rfl (rs_lo (x := .tmp 13) H64.out rfl rfl _) ?_
     refine hK.out _ _ (hHeld) (fun hHeld => ?_)
     clear hK K
     refine nm_ (some 14) ?_
     refine on1_ 5 (some 15) (bs 9 191) rfl fun K hK => ?_
     refine gs_ Try.func49 #[.slice (some ⟨b, o + 32, none⟩) 32 (c - 32)] rfl ?_
     with_reducible refine (K2.out _ (bl_on HB.out hHeld HB.out.size)).mono ?_
     rintro e u24 ⟨rfl, hb_u24⟩
     refine ⟨_, rfl, ?_⟩
     have hq_u24 := bl_on hHeld hb_u24 hHeld.size
     replace hzg4 := hzg4.on hb_u24
     refine hK.out _ _ (hq_u24) (fun hHeld => ?_)
     clear hK K
     refine nm_ (some 15) ?_
     refine on1_ 6 (some 16) (bs 9 255) rfl fun K hK => ?_
     refine value_ (w1 := _) (v := ptV x y false) (by rfl) rfl (rb_pt _ (.tmp 12) (.tmp 15) rfl rfl rfl) ?_
     refine hK.out _ _ (hHeld) (fun hHeld => ?_)
     clear hK K
     refine nm_ (some 16) ?_
     exact norm_ (by simp only [putAll, aS]) (hCont (w1.heap.size) _ ⟨hHeld, hzg4, hsg4⟩)
    ·skip
     refine value_ (w1 := _) (v := .slice (some ⟨b, o + 32, none⟩) 32 (c - 32)) (by rfl) rfl (rs_lo (x := .tmp 13) H64.out rfl rfl _) ?_
     refine hK.out _ _ (hHeld) (fun hHeld => ?_)
     clear hK K
     refine nm_ (some 14) ?_
     refine on1_ 2 (some 12) (bs 9 159) rfl fun K hK => ?_
     refine gs_ Try.func49 #[.slice (some ⟨b, o, none⟩) 32 c] rfl ?_
     with_reducible refine (K1.out _ (bl_on HB.out hHeld HB.out.size)).mono ?_
     rintro e u23 ⟨rfl, hb_u23⟩
     refine ⟨_, rfl, ?_⟩
     have hq_u23 := bl_on hHeld hb_u23 hHeld.size
     replace hzg4 := hzg4.on hb_u23
     refine hK.out _ _ (hq_u23) (fun hHeld => ?_)
     clear hK K
     refine nm_ (some 12) ?_
     refine on1_ 5 (some 15) (bs 9 191) rfl fun K hK => ?_
     refine gs_ Try.func49 #[.slice (some ⟨b, o + 32, none⟩) 32 (c - 32)] rfl ?_
     with_reducible refine (K2.out _ (bl_on HB.out hHeld HB.out.size)).mono ?_
     rintro e u24 ⟨rfl, hb_u24⟩
     refine ⟨_, rfl, ?_⟩
     have hq_u24 := bl_on hHeld hb_u24 hHeld.size
     replace hzg4 := hzg4.on hb_u24
     refine hK.out _ _ (hq_u24) (fun hHeld => ?_)
     clear hK K
     refine nm_ (some 15) ?_
     refine on1_ 6 (some 16) (bs 9 255) rfl fun K hK => ?_
     refine value_ (w1 := _) (v := ptV x y false) (by rfl) rfl (rb_pt _ (.tmp 12) (.tmp 15) rfl rfl rfl) ?_
     refine hK.out _ _ (hHeld) (fun hHeld => ?_)
     clear hK K
     refine nm_ (some 16) ?_
     exact norm_ (by simp only [putAll, aS]) (hCont (w1.heap.size) _ ⟨hHeld, hzg4, hsg4⟩)
  ·skip
   refine value_ (w1 := _) (v := .slice (some ⟨b, o + 32, none⟩) 32 (c - 32)) (by rfl) rfl (rs_lo (x := .tmp 13) H64.out rfl rfl _) ?_
   refine hK.out _ _ (hHeld) (fun hHeld => ?_)
   clear hK K
   refine nm_ (some 14) ?_
   refine tw_ 1 7 (some 11) (some 4) (bs 9 27) (bs 9 153) rfl rfl (fun K hK => ?_) (fun K hK => ?_)
   ·skip
    refine value_ (w1 := _) (v := .slice (some ⟨b, o, none⟩) 32 c) (by rfl) rfl (rs_hi (x := .tmp 10) H64.out rfl rfl _) ?_
    refine hK.out _ _ (hHeld) (fun hHeld => ?_)
    clear hK K
    refine nm_ (some 11) ?_
    refine tw_ 2 7 (some 12) (some 4) (bs 9 31) (bs 9 155) rfl rfl (fun K hK => ?_) (fun K hK => ?_)
    ·skip
     refine gs_ Try.func49 #[.slice (some ⟨b, o, none⟩) 32 c] rfl ?_
     with_reducible refine (K1.out _ (bl_on HB.out hHeld HB.out.size)).mono ?_
     rintro e u23 ⟨rfl, hb_u23⟩
     refine ⟨_, rfl, ?_⟩
     have hq_u23 := bl_on hHeld hb_u23 hHeld.size
     refine hK.out _ _ (hq_u23) (fun hHeld => ?_)
     clear hK K
     refine nm_ (some 12) ?_
     refine tw_ 5 7 (some 15) (some 4) (bs 9 63) (bs 9 159) rfl rfl (fun K hK => ?_) (fun K hK => ?_)
     ·skip
      refine gs_ Try.func49 #[.slice (some ⟨b, o + 32, none⟩) 32 (c - 32)] rfl ?_
      with_reducible refine (K2.out _ (bl_on HB.out hHeld HB.out.size)).mono ?_
      rintro e u24 ⟨rfl, hb_u24⟩
      refine ⟨_, rfl, ?_⟩
      have hq_u24 := bl_on hHeld hb_u24 hHeld.size
      refine hK.out _ _ (hq_u24) (fun hHeld => ?_)
      clear hK K
      refine nm_ (some 15) ?_
      refine tw_ 6 7 (some 16) (some 4) (bs 9 127) (bs 9 191) rfl rfl (fun K hK => ?_) (fun K hK => ?_)
      ·skip
       refine value_ (w1 := _) (v := ptV x y false) (by rfl) rfl (rb_pt _ (.tmp 12) (.tmp 15) rfl rfl rfl) ?_
       refine hK.out _ _ (hHeld) (fun hHeld => ?_)
       clear hK K
       refine nm_ (some 16) ?_
       refine on1_ 7 (some 4) (bs 9 255) rfl fun K hK => ?_
       refine value_ (w1 := ?_) (v := ?_) (by rfl) rfl ?_ ?_
       rotate_left 2
       ·go_simp
        constructor
        ·rfl
        ·rfl
       have hzg4 : PtAt (World.alloc u24 (.cells (pw 0 0 false).toArray 26)) (u24.heap.size) 0 0 false := by have h_ := Row.new u24 26 (pw 0 0 false); first | exact h_ | (simp only [alloc_sz] at h_; exact h_) | omega
       have hsg4 : w1.heap.size ≤ u24.heap.size := by have h_ := hHeld.size; first | exact h_ | (simp only [alloc_sz] at h_; exact h_) | omega
       refine hK.out _ _ (below_alloc hHeld _) (fun hHeld => ?_)
       clear hK K
       refine nm_ (some 4) ?_
       exact norm_ (by simp only [putAll, aS]) (hCont (u24.heap.size) _ ⟨hHeld, hzg4, hsg4⟩)
      ·skip
       refine value_ (w1 := ?_) (v := ?_) (by rfl) rfl ?_ ?_
       rotate_left 2
       ·go_simp
        constructor
        ·rfl
        ·rfl
       have hzg4 : PtAt (World.alloc u24 (.cells (pw 0 0 false).toArray 26)) (u24.heap.size) 0 0 false := by have h_ := Row.new u24 26 (pw 0 0 false); first | exact h_ | (simp only [alloc_sz] at h_; exact h_) | omega
       have hsg4 : w1.heap.size ≤ u24.heap.size := by have h_ := hHeld.size; first | exact h_ | (simp only [alloc_sz] at h_; exact h_) | omega
       refine hK.out _ _ (below_alloc hHeld _) (fun hHeld => ?_)
       clear hK K
       refine nm_ (some 4) ?_
       refine on1_ 6 (some 16) (bs 9 255) rfl fun K hK => ?_
       refine value_ (w1 := _) (v := ptV x y false) (by rfl) rfl (rb_pt _ (.tmp 12) (.tmp 15) rfl rfl rfl) ?_
       refine hK.out _ _ (hHeld) (fun hHeld => ?_)
       clear hK K
       refine nm_ (some 16) ?_
       exact norm_ (by simp only [putAll, aS]) (hCont (u24.heap.size) _ ⟨hHeld, hzg4, hsg4⟩)
     ·skip
      refine value_ (w1 := ?_) (v := ?_) (by rfl) rfl ?_ ?_
      rotate_left 2
      ·go_simp
       constructor
       ·rfl
       ·rfl
      have hzg4 : PtAt (World.alloc u23 (.cells (pw 0 0 false).toArray 26)) (u23.heap.size) 0 0 false := by have h_ := Row.new u23 26 (pw 0 0 false); first | exact h_ | (simp only [alloc_sz] at h_; exact h_) | omega
      have hsg4 : w1.heap.size ≤ u23.heap.size := by have h_ := hHeld.size; first | exact h_ | (simp only [alloc_sz] at h_; exact h_) | omega
      refine hK.out _ _ (below_alloc hHeld _) (fun hHeld => ?_)
      clear hK K
      refine nm_ (some 4) ?_
      refine on1_ 5 (some 15) (bs 9 191) rfl fun K hK => ?_
      refine gs_ Try.func49 #[.slice (some ⟨b, o + 32, none⟩) 32 (c - 32)] rfl ?_
      with_reducible refine (K2.out _ (bl_on HB.out hHeld HB.out.size)).mono ?_
      rintro e u24 ⟨rfl, hb_u24⟩
      refine ⟨_, rfl, ?_⟩
      have hq_u24 := bl_on hHeld hb_u24 hHeld.size
      replace hzg4 := hzg4.on hb_u24
      refine hK.out _ _ (hq_u24) (fun hHeld => ?_)
      clear hK K
      refine nm_ (some 15) ?_
      refine on1_ 6 (some 16) (bs 9 255) rfl fun K hK => ?_
      refine value_ (w1 := _) (v := ptV x y false) (by rfl) rfl (rb_pt _ (.tmp 12) (.tmp 15) rfl rfl rfl) ?_
      refine hK.out _ _ (hHeld) (fun hHeld => ?_)
      clear hK K
      refine nm_ (some 16) ?_
      exact norm_ (by simp only [putAll, aS]) (hCont (u23.heap.size) _ ⟨hHeld, hzg4, hsg4⟩)
    ·skip
     refine value_ (w1 := ?_) (v := ?_) (by rfl) rfl ?_ ?_
     rotate_left 2
     ·go_simp
      constructor
      ·rfl
      ·rfl
     have hzg4 : PtAt (World.alloc (World.drew w1) (.cells (pw 0 0 false).toArray 26)) (w1.heap.size) 0 0 false := by have h_ := Row.new (World.drew w1) 26 (pw 0 0 false); first | exact h_ | (simp only [alloc_sz] at h_; exact h_) | omega
     have hsg4 : w1.heap.size ≤ w1.heap.size := by have h_ := hHeld.size; first | exact h_ | (simp only [alloc_sz] at h_; exact h_) | omega
     refine hK.out _ _ (below_alloc hHeld _) (fun hHeld => ?_)
     clear hK K
     refine nm_ (some 4) ?_
     refine on1_ 2 (some 12) (bs 9 159) rfl fun K hK => ?_
     refine gs_ Try.func49 #[.slice (some ⟨b, o, none⟩) 32 c] rfl ?_
     with_reducible refine (K1.out _ (bl_on HB.out hHeld HB.out.size)).mono ?_
     rintro e u23 ⟨rfl, hb_u23⟩
     refine ⟨_, rfl, ?_⟩
     have hq_u23 := bl_on hHeld hb_u23 hHeld.size
     replace hzg4 := hzg4.on hb_u23
     refine hK.out _ _ (hq_u23) (fun hHeld => ?_)
     clear hK K
     refine nm_ (some 12) ?_
     refine on1_ 5 (some 15) (bs 9 191) rfl fun K hK => ?_
     refine gs_ Try.func49 #[.slice (some ⟨b, o + 32, none⟩) 32 (c - 32)] rfl ?_
     with_reducible refine (K2.out _ (bl_on HB.out hHeld HB.out.size)).mono ?_
     rintro e u24 ⟨rfl, hb_u24⟩
     refine ⟨_, rfl, ?_⟩
     have hq_u24 := bl_on hHeld hb_u24 hHeld.size
     replace hzg4 := hzg4.on hb_u24
     refine hK.out _ _ (hq_u24) (fun hHeld => ?_)
     clear hK K
     refine nm_ (some 15) ?_
     refine on1_ 6 (some 16) (bs 9 255) rfl fun K hK => ?_
     refine value_ (w1 := _) (v := ptV x y false) (by rfl) rfl (rb_pt _ (.tmp 12) (.tmp 15) rfl rfl rfl) ?_
     refine hK.out _ _ (hHeld) (fun hHeld => ?_)
     clear hK K
     refine nm_ (some 16) ?_
     exact norm_ (by simp only [putAll, aS]) (hCont (w1.heap.size) _ ⟨hHeld, hzg4, hsg4⟩)
   ·skip
    refine value_ (w1 := ?_) (v := ?_) (by rfl) rfl ?_ ?_
    rotate_left 2
    ·go_simp
     constructor
     ·rfl
     ·rfl
    have hzg4 : PtAt (World.alloc (World.drew w1) (.cells (pw 0 0 false).toArray 26)) (w1.heap.size) 0 0 false := by have h_ := Row.new (World.drew w1) 26 (pw 0 0 false); first | exact h_ | (simp only [alloc_sz] at h_; exact h_) | omega
    have hsg4 : w1.heap.size ≤ w1.heap.size := by have h_ := hHeld.size; first | exact h_ | (simp only [alloc_sz] at h_; exact h_) | omega
    refine hK.out _ _ (below_alloc hHeld _) (fun hHeld => ?_)
    clear hK K
    refine nm_ (some 4) ?_
    refine on1_ 1 (some 11) (bs 9 155) rfl fun K hK => ?_
    refine value_ (w1 := _) (v := .slice (some ⟨b, o, none⟩) 32 c) (by rfl) rfl (rs_hi (x := .tmp 10) H64.out rfl rfl _) ?_
    refine hK.out _ _ (hHeld) (fun hHeld => ?_)
    clear hK K
    refine nm_ (some 11) ?_
    refine on1_ 2 (some 12) (bs 9 159) rfl fun K hK => ?_
    refine gs_ Try.func49 #[.slice (some ⟨b, o, none⟩) 32 c] rfl ?_
    with_reducible refine (K1.out _ (bl_on HB.out hHeld HB.out.size)).mono ?_
    rintro e u23 ⟨rfl, hb_u23⟩
    refine ⟨_, rfl, ?_⟩
    have hq_u23 := bl_on hHeld hb_u23 hHeld.size
    replace hzg4 := hzg4.on hb_u23
    refine hK.out _ _ (hq_u23) (fun hHeld => ?_)
    clear hK K
    refine nm_ (some 12) ?_
    refine on1_ 5 (some 15) (bs 9 191) rfl fun K hK => ?_
    refine gs_ Try.func49 #[.slice (some ⟨b, o + 32, none⟩) 32 (c - 32)] rfl ?_
    with_reducible refine (K2.out _ (bl_on HB.out hHeld HB.out.size)).mono ?_
    rintro e u24 ⟨rfl, hb_u24⟩
    refine ⟨_, rfl, ?_⟩
    have hq_u24 := bl_on hHeld hb_u24 hHeld.size
    replace hzg4 := hzg4.on hb_u24
    refine hK.out _ _ (hq_u24) (fun hHeld => ?_)
    clear hK K
    refine nm_ (some 15) ?_
    refine on1_ 6 (some 16) (bs 9 255) rfl fun K hK => ?_
    refine value_ (w1 := _) (v := ptV x y false) (by rfl) rfl (rb_pt _ (.tmp 12) (.tmp 15) rfl rfl rfl) ?_
    refine hK.out _ _ (hHeld) (fun hHeld => ?_)
    clear hK K
    refine nm_ (some 16) ?_
    exact norm_ (by simp only [putAll, aS]) (hCont (w1.heap.size) _ ⟨hHeld, hzg4, hsg4⟩)
  ·skip
   refine value_ (w1 := ?_) (v := ?_) (by rfl) rfl ?_ ?_
   rotate_left 2
   ·go_simp
    constructor
    ·rfl
    ·rfl
   have hzg4 : PtAt (World.alloc (World.drew w1) (.cells (pw 0 0 false).toArray 26)) (w1.heap.size) 0 0 false := by have h_ := Row.new (World.drew w1) 26 (pw 0 0 false); first | exact h_ | (simp only [alloc_sz] at h_; exact h_) | omega
   have hsg4 : w1.heap.size ≤ w1.heap.size := by have h_ := hHeld.size; first | exact h_ | (simp only [alloc_sz] at h_; exact h_) | omega
   refine hK.out _ _ (below_alloc hHeld _) (fun hHeld => ?_)
   clear hK K
   refine nm_ (some 4) ?_
   refine tw_ 1 4 (some 11) (some 14) (bs 9 139) (bs 9 153) rfl rfl (fun K hK => ?_) (fun K hK => ?_)
   ·skip
    refine value_ (w1 := _) (v := .slice (some ⟨b, o, none⟩) 32 c) (by rfl) rfl (rs_hi (x := .tmp 10) H64.out rfl rfl _) ?_
    refine hK.out _ _ (hHeld) (fun hHeld => ?_)
    clear hK K
    refine nm_ (some 11) ?_
    refine tw_ 2 4 (some 12) (some 14) (bs 9 143) (bs 9 155) rfl rfl (fun K hK => ?_) (fun K hK => ?_)
    ·skip
     refine gs_ Try.func49 #[.slice (some ⟨b, o, none⟩) 32 c] rfl ?_
     with_reducible refine (K1.out _ (bl_on HB.out hHeld HB.out.size)).mono ?_
     rintro e u23 ⟨rfl, hb_u23⟩
     refine ⟨_, rfl, ?_⟩
     have hq_u23 := bl_on hHeld hb_u23 hHeld.size
     replace hzg4 := hzg4.on hb_u23
     refine hK.out _ _ (hq_u23) (fun hHeld => ?_)
     clear hK K
     refine nm_ (some 12) ?_
     refine on1_ 4 (some 14) (bs 9 159) rfl fun K hK => ?_
     refine value_ (w1 := _) (v := .slice (some ⟨b, o + 32, none⟩) 32 (c - 32)) (by rfl) rfl (rs_lo (x := .tmp 13) H64.out rfl rfl _) ?_
     refine hK.out _ _ (hHeld) (fun hHeld => ?_)
     clear hK K
     refine nm_ (some 14) ?_
     refine on1_ 5 (some 15) (bs 9 191) rfl fun K hK => ?_
     refine gs_ Try.func49 #[.slice (some ⟨b, o + 32, none⟩) 32 (c - 32)] rfl ?_
     with_reducible refine (K2.out _ (bl_on HB.out hHeld HB.out.size)).mono ?_
     rintro e u24 ⟨rfl, hb_u24⟩
     refine ⟨_, rfl, ?_⟩
     have hq_u24 := bl_on hHeld hb_u24 hHeld.size
     replace hzg4 := hzg4.on hb_u24
     refine hK.out _ _ (hq_u24) (fun hHeld => ?_)
     clear hK K
     refine nm_ (some 15) ?_
     refine on1_ 6 (some 16) (bs 9 255) rfl fun K hK => ?_
     refine value_ (w1 := _) (v := ptV x y false) (by rfl) rfl (rb_pt _ (.tmp 12) (.tmp 15) rfl rfl rfl) ?_
     refine hK.out _ _ (hHeld) (fun hHeld => ?_)
     clear hK K
     refine nm_ (some 16) ?_
     exact norm_ (by simp only [putAll, aS]) (hCont (w1.heap.size) _ ⟨hHeld, hzg4, hsg4⟩)
    ·skip
     refine value_ (w1 := _) (v := .slice (some ⟨b, o + 32, none⟩) 32 (c - 32)) (by rfl) rfl (rs_lo (x := .tmp 13) H64.out rfl rfl _) ?_
     refine hK.out _ _ (hHeld) (fun hHeld => ?_)
     clear hK K
     refine nm_ (some 14) ?_
     refine on1_ 2 (some 12) (bs 9 159) rfl fun K hK => ?_
     refine gs_ Try.func49 #[.slice (some ⟨b, o, none⟩) 32 c] rfl ?_
     with_reducible refine (K1.out _ (bl_on HB.out hHeld HB.out.size)).mono ?_
     rintro e u23 ⟨rfl, hb_u23⟩
     refine ⟨_, rfl, ?_⟩
     have hq_u23 := bl_on hHeld hb_u23 hHeld.size
     replace hzg4 := hzg4.on hb_u23
     refine hK.out _ _ (hq_u23) (fun hHeld => ?_)
     clear hK K
     refine nm_ (some 12) ?_
     refine on1_ 5 (some 15) (bs 9 191) rfl fun K hK => ?_
     refine gs_ Try.func49 #[.slice (some ⟨b, o + 32, none⟩) 32 (c - 32)] rfl ?_
     with_reducible refine (K2.out _ (bl_on HB.out hHeld HB.out.size)).mono ?_
     rintro e u24 ⟨rfl, hb_u24⟩
     refine ⟨_, rfl, ?_⟩
     have hq_u24 := bl_on hHeld hb_u24 hHeld.size
     replace hzg4 := hzg4.on hb_u24
     refine hK.out _ _ (hq_u24) (fun hHeld => ?_)
     clear hK K
     refine nm_ (some 15) ?_
     refine on1_ 6 (some 16) (bs 9 255) rfl fun K hK => ?_
     refine value_ (w1 := _) (v := ptV x y false) (by rfl) rfl (rb_pt _ (.tmp 12) (.tmp 15) rfl rfl rfl) ?_
     refine hK.out _ _ (hHeld) (fun hHeld => ?_)
     clear hK K
     refine nm_ (some 16) ?_
     exact norm_ (by simp only [putAll, aS]) (hCont (w1.heap.size) _ ⟨hHeld, hzg4, hsg4⟩)
   ·skip
    refine value_ (w1 := _) (v := .slice (some ⟨b, o + 32, none⟩) 32 (c - 32)) (by rfl) rfl (rs_lo (x := .tmp 13) H64.out rfl rfl _) ?_
    refine hK.out _ _ (hHeld) (fun hHeld => ?_)
    clear hK K
    refine nm_ (some 14) ?_
    refine on1_ 1 (some 11) (bs 9 155) rfl fun K hK => ?_
    refine value_ (w1 := _) (v := .slice (some ⟨b, o, none⟩) 32 c) (by rfl) rfl (rs_hi (x := .tmp 10) H64.out rfl rfl _) ?_
    refine hK.out _ _ (hHeld) (fun hHeld => ?_)
    clear hK K
    refine nm_ (some 11) ?_
    refine on1_ 2 (some 12) (bs 9 159) rfl fun K hK => ?_
    refine gs_ Try.func49 #[.slice (some ⟨b, o, none⟩) 32 c] rfl ?_
    with_reducible refine (K1.out _ (bl_on HB.out hHeld HB.out.size)).mono ?_
    rintro e u23 ⟨rfl, hb_u23⟩
    refine ⟨_, rfl, ?_⟩
    have hq_u23 := bl_on hHeld hb_u23 hHeld.size
    replace hzg4 := hzg4.on hb_u23
    refine hK.out _ _ (hq_u23) (fun hHeld => ?_)
    clear hK K
    refine nm_ (some 12) ?_
    refine on1_ 5 (some 15) (bs 9 191) rfl fun K hK => ?_
    refine gs_ Try.func49 #[.slice (some ⟨b, o + 32, none⟩) 32 (c - 32)] rfl ?_
    with_reducible refine (K2.out _ (bl_on HB.out hHeld HB.out.size)).mono ?_
    rintro e u24 ⟨rfl, hb_u24⟩
    refine ⟨_, rfl, ?_⟩
    have hq_u24 := bl_on hHeld hb_u24 hHeld.size
    replace hzg4 := hzg4.on hb_u24
    refine hK.out _ _ (hq_u24) (fun hHeld => ?_)
    clear hK K
    refine nm_ (some 15) ?_
    refine on1_ 6 (some 16) (bs 9 255) rfl fun K hK => ?_
    refine value_ (w1 := _) (v := ptV x y false) (by rfl) rfl (rb_pt _ (.tmp 12) (.tmp 15) rfl rfl rfl) ?_
    refine hK.out _ _ (hHeld) (fun hHeld => ?_)
    clear hK K
    refine nm_ (some 16) ?_
    exact norm_ (by simp only [putAll, aS]) (hCont (w1.heap.size) _ ⟨hHeld, hzg4, hsg4⟩)
 rintro g4 v25 ⟨hHeld0, hzg4, hsg4⟩
 have hHeld : Below w1.heap.size w1 v25 := hHeld0
 clear hHeld0
 refine norm_ (a' := ?_) ?_ ?_
 rotate_left
 ·simp only [putAll, aS]
  rfl
 refine last_ (i := 8) (N := none) (bs 9 511) rfl rfl (by kernel_rfl) (by decide) (fun K hK => ?_)
 refine skip_pt (x := x) (y := y) (f := false) (hzg4) (by rfl) rfl (.tmp 4) (.tmp 16) rfl rfl rfl ?_
 intro q26 hA_q26 hT_q26
 refine hK.out _ _ ?_
 clear hK K
 refine done_ (by kernel_rfl) ?_
 have HXg4 : Aside0 (w.heap.size + 1 ≤ g4) := Aside0.mk (Nat.le_trans HS.out hsg4)
 replace HR := Aside0.mk (HR.out.on hHeld)
 replace HB := Aside0.mk (bl_on HB.out hHeld HB.out.size)
 replace HS := Aside0.mk (Nat.le_trans HS.out hHeld.size)
 replace HR := Aside0.mk (HR.out.but hT_q26 (by have := HXg4.out; omega))
 have Hg4 := Aside0.mk hA_q26
 replace HB := Aside0.mk (bl_but HB.out hT_q26 HB.out.size (by have := HXg4.out; omega))
 replace HS := Aside0.mk (Nat.le_trans HS.out hT_q26.size)
 clear hA_q26 hT_q26 hzg4 hsg4 hHeld
 go_upto_region 5 with (first | ((with_reducible refine gate_dst (N := 17) rfl ?_); refine ld_pt Hg4.out rfl _ rfl rfl ?_) | ((with_reducible refine gate_dst (N := 18) rfl ?_); refine goesL_ (some 18) rfl rfl Try.func13 (by kernel_rfl) rfl #[ptV x y false] rfl (by (try simp only [List.map_toArray, List.map_cons, List.map_nil]); first | done | rfl) ?_; (with_reducible refine (K3.out _).mono ?_); rintro e u27 ⟨rfl, hb_⟩; refine ⟨_, rfl, ?_⟩; replace HR := Aside0.mk (HR.out.on hb_); replace Hg4 := Aside0.mk (Hg4.out.on hb_); replace HB := Aside0.mk (bl_on HB.out hb_ HB.out.size); replace HS := Aside0.mk (Nat.le_trans HS.out hb_.size); clear hb_))
 go_upto_region 7 with (fail)
 go_wp2_with (first | ((with_reducible refine gate_dst (N := 22) rfl ?_); refine ld_pt Hg4.out rfl _ rfl rfl ?_) | ((with_reducible refine gate_st (y := .tmp 22) rfl ?_); (try simp only [aS]); refine st_pt (x := x) (y := y) (f := false) HR.out rfl _ _ rfl rfl rfl ?_; intro u28 hn_ hb_; replace Hg4 := Aside0.mk (Hg4.out.but hb_ (by have := HXg4.out; omega)); replace HR := Aside0.mk hn_; replace HB := Aside0.mk (bl_but HB.out hb_ HB.out.size (by have := HXg4.out; omega)); replace HS := Aside0.mk (Nat.le_trans HS.out hb_.size); clear hn_ hb_))
 refine bodyPost_ret (v := .tuple #[ptV x y false, .bool true]) (results_pt2 rfl rfl rfl HR.out) rfl ⟨rfl, HB.out⟩
set_option maxRecDepth 100000 in
set_option maxHeartbeats 8000000 in
theorem rparse_bad {b o : Nat} {l : List Nat} {c : Nat} (w : World) (hl : l.length = 64) (h64 : 64 ≤ c) (h0 : BAt w (some ⟨b, o, none⟩) l) (hon : onB (b2x l) (b2y l) false = false) :
  Calls Try.prog 28 #[.slice (some ⟨b, o, none⟩) l.length c] w fun e w' => e = .returned (rrV l) ∧ Below w.heap.size w w' := by
 have hres : rrV l = .tuple #[ptV 0 0 false, .bool false] := by unfold rrV; rw [if_neg (fun e => by rw [hon] at e; exact absurd e.2 (by decide))]
 have hx := b2x_lt h0 hl
 have hy := b2y_lt h0 hl
 rw [hres]
 have K1 := Aside0.mk (fun (u : World) (h : Below w.heap.size w u) => rof_hi hl h64 h0 u h)
 have K2 := Aside0.mk (fun (u : World) (h : Below w.heap.size w u) => rof_lo hl h64 h0 u h)
 have K3 := Aside0.mk (fun (u : World) => rOn_calls hx hy false u)
 rw [hl]
 rw [hon] at K3
 generalize b2x l = x at *
 generalize b2y l = y at *
 have H64 : Aside0 (64 ≤ c) := Aside0.mk h64
 clear hres hx hy hon h64 h0 hl
 go_enter Try.func28, Try.ntmps28
 go_upto_region 1 with (fail)
 refine wp_at (w2 := (World.alloc w (.cells (pw 0 0 false).toArray 26))) rfl ?_
 obtain ⟨x_0, e_0, h_0, b_0, s_0⟩ := new_PtAt w 0 0 false
 rw [e_0]
 have HB : Aside0 (Below w.heap.size w x_0) := Aside0.mk b_0
 have HR : Aside0 (PtAt x_0 (w.heap.size) 0 0 false) := Aside0.mk h_0
 have HS : Aside0 (w.heap.size + 1 ≤ x_0.heap.size) := Aside0.mk (Nat.le_of_eq s_0.symm)
 clear e_0 h_0 b_0 s_0
 obtain ⟨w1, hw_⟩ : ∃ x, x = x_0 := ⟨_, rfl⟩
 subst hw_
 go_upto_region 3 with (fail)
 refine start_ (n := 9) (S := fun w' => Below w1.heap.size w1 w') (ds := [8]) (bs 9 0) (by kernel_rfl) rfl rfl ((Below.refl _ _).drew) (fun hHeld => ?_)
 refine pu_ 0 10 (bs 9 1) ?_ ?_ ?_ ?_ ?_
 rotate_left
 ·intro w'
  go_simp
  with_reducible rfl
 rotate_left
 ·simp only [aS, i64_w, i32_w]
  rfl
 refine pu_ 3 13 (bs 9 9) ?_ ?_ ?_ ?_ ?_
 rotate_left
 ·intro w'
  go_simp
  with_reducible rfl
 rotate_left
 ·simp only [aS, i64_w, i32_w]
  rfl
 refine join_ (σ := Nat) 1 (bs 9 255) (fun s => [(4, .pointer (some ⟨s, 0, none⟩)), (12, numV x), (15, numV y), (16, ptV x y false), (11, .slice (some ⟨b, o, none⟩) 32 c), (14, .slice (some ⟨b, o + 32, none⟩) 32 (c - 32))]) (fun s w' => Below w1.heap.size w1 w' ∧ PtAt w' s 0 0 false ∧ w1.heap.size ≤ s) ?_ ?_
 rotate_left
 ·intro hCont
  refine three_ (i := 1) (j := 4) (k := 7) (Ni := some 11) (Nj := some 14) (Nk := some 4) (bs 9 11) (bs 9 25) (bs 9 137) rfl rfl rfl rfl rfl rfl (by kernel_rfl) (by decide) (by decide) (by decide) (fun K hK => ?_) (fun K hK => ?_) (fun K hK => ?_)
  ·skip
   refine value_ (w1 := _) (v := .slice (some ⟨b, o, none⟩) 32 c) (by rfl) rfl (rs_hi (x := .tmp 10) H64.out rfl rfl _) ?_
   refine hK.out _ _ (hHeld) (fun hHeld => ?_)
   clear hK K
   refine nm_ (some 11) ?_
   refine three_ (i := 2) (j := 4) (k := 7) (Ni := some 12) (Nj := some 14) (Nk := some 4) (bs 9 15) (bs 9 27) (bs 9 139) rfl rfl rfl rfl rfl rfl (by kernel_rfl) (by decide) (by decide) (by decide) (fun K hK => ?_) (fun K hK => ?_) (fun K hK => ?_)
   ·skip
    refine gs_ Try.func49 #[.slice (some ⟨b, o, none⟩) 32 c] rfl ?_
    with_reducible refine (K1.out _ (bl_on HB.out hHeld HB.out.size)).mono ?_
    rintro e u29 ⟨rfl, hb_u29⟩
    refine ⟨_, rfl, ?_⟩
    have hq_u29 := bl_on hHeld hb_u29 hHeld.size
    refine hK.out _ _ (hq_u29) (fun hHeld => ?_)
    clear hK K
    refine nm_ (some 12) ?_
    refine tw_ 4 7 (some 14) (some 4) (bs 9 31) (bs 9 143) rfl rfl (fun K hK => ?_) (fun K hK => ?_)
    ·skip
     refine value_ (w1 := _) (v := .slice (some ⟨b, o + 32, none⟩) 32 (c - 32)) (by rfl) rfl (rs_lo (x := .tmp 13) H64.out rfl rfl _) ?_
     refine hK.out _ _ (hHeld) (fun hHeld => ?_)
     clear hK K
     refine nm_ (some 14) ?_
     refine tw_ 5 7 (some 15) (some 4) (bs 9 63) (bs 9 159) rfl rfl (fun K hK => ?_) (fun K hK => ?_)
     ·skip
      refine gs_ Try.func49 #[.slice (some ⟨b, o + 32, none⟩) 32 (c - 32)] rfl ?_
      with_reducible refine (K2.out _ (bl_on HB.out hHeld HB.out.size)).mono ?_
      rintro e u30 ⟨rfl, hb_u30⟩
      refine ⟨_, rfl, ?_⟩
      have hq_u30 := bl_on hHeld hb_u30 hHeld.size
      refine hK.out _ _ (hq_u30) (fun hHeld => ?_)
      clear hK K
      refine nm_ (some 15) ?_
      refine tw_ 6 7 (some 16) (some 4) (bs 9 127) (bs 9 191) rfl rfl (fun K hK => ?_) (fun K hK => ?_)
      ·skip
       refine value_ (w1 := _) (v := ptV x y false) (by rfl) rfl (rb_pt _ (.tmp 12) (.tmp 15) rfl rfl rfl) ?_
       refine hK.out _ _ (hHeld) (fun hHeld => ?_)
       clear hK K
       refine nm_ (some 16) ?_
       refine on1_ 7 (some 4) (bs 9 255) rfl fun K hK => ?_
       refine value_ (w1 := ?_) (v := ?_) (by rfl) rfl ?_ ?_
       rotate_left 2
       ·go_simp
        constructor
        ·rfl
        ·rfl
       have hzg4 : PtAt (World.alloc u30 (.cells (pw 0 0 false).toArray 26)) (u30.heap.size) 0 0 false := by have h_ := Row.new u30 26 (pw 0 0 false); first | exact h_ | (simp only [alloc_sz] at h_; exact h_) | omega
       have hsg4 : w1.heap.size ≤ u30.heap.size := by have h_ := hHeld.size; first | exact h_ | (simp only [alloc_sz] at h_; exact h_) | omega
       refine hK.out _ _ (below_alloc hHeld _) (fun hHeld => ?_)
       clear hK K
       refine nm_ (some 4) ?_
       exact norm_ (by simp only [putAll, aS]) (hCont (u30.heap.size) _ ⟨hHeld, hzg4, hsg4⟩)
      ·skip
       refine value_ (w1 := ?_) (v := ?_) (by rfl) rfl ?_ ?_
       rotate_left 2
       ·go_simp
        constructor
        ·rfl
        ·rfl
       have hzg4 : PtAt (World.alloc u30 (.cells (pw 0 0 false).toArray 26)) (u30.heap.size) 0 0 false := by have h_ := Row.new u30 26 (pw 0 0 false); first | exact h_ | (simp only [alloc_sz] at h_; exact h_) | omega
       have hsg4 : w1.heap.size ≤ u30.heap.size := by have h_ := hHeld.size; first | exact h_ | (simp only [alloc_sz] at h_; exact h_) | omega
       refine hK.out _ _ (below_alloc hHeld _) (fun hHeld => ?_)
       clear hK K
       refine nm_ (some 4) ?_
       refine on1_ 6 (some 16) (bs 9 255) rfl fun K hK => ?_
       refine value_ (w1 := _) (v := ptV x y false) (by rfl) rfl (rb_pt _ (.tmp 12) (.tmp 15) rfl rfl rfl) ?_
       refine hK.out _ _ (hHeld) (fun hHeld => ?_)
       clear hK K
       refine nm_ (some 16) ?_
       exact norm_ (by simp only [putAll, aS]) (hCont (u30.heap.size) _ ⟨hHeld, hzg4, hsg4⟩)
     ·skip
      refine value_ (w1 := ?_) (v := ?_) (by rfl) rfl ?_ ?_
      rotate_left 2
      ·go_simp
       constructor
       ·rfl
       ·rfl
      have hzg4 : PtAt (World.alloc u29 (.cells (pw 0 0 false).toArray 26)) (u29.heap.size) 0 0 false := by have h_ := Row.new u29 26 (pw 0 0 false); first | exact h_ | (simp only [alloc_sz] at h_; exact h_) | omega
      have hsg4 : w1.heap.size ≤ u29.heap.size := by have h_ := hHeld.size; first | exact h_ | (simp only [alloc_sz] at h_; exact h_) | omega
      refine hK.out _ _ (below_alloc hHeld _) (fun hHeld => ?_)
      clear hK K
      refine nm_ (some 4) ?_
      refine on1_ 5 (some 15) (bs 9 191) rfl fun K hK => ?_
      refine gs_ Try.func49 #[.slice (some ⟨b, o + 32, none⟩) 32 (c - 32)] rfl ?_
      with_reducible refine (K2.out _ (bl_on HB.out hHeld HB.out.size)).mono ?_
      rintro e u30 ⟨rfl, hb_u30⟩
      refine ⟨_, rfl, ?_⟩
      have hq_u30 := bl_on hHeld hb_u30 hHeld.size
      replace hzg4 := hzg4.on hb_u30
      refine hK.out _ _ (hq_u30) (fun hHeld => ?_)
      clear hK K
      refine nm_ (some 15) ?_
      refine on1_ 6 (some 16) (bs 9 255) rfl fun K hK => ?_
      refine value_ (w1 := _) (v := ptV x y false) (by rfl) rfl (rb_pt _ (.tmp 12) (.tmp 15) rfl rfl rfl) ?_
      refine hK.out _ _ (hHeld) (fun hHeld => ?_)
      clear hK K
      refine nm_ (some 16) ?_
      exact norm_ (by simp only [putAll, aS]) (hCont (u29.heap.size) _ ⟨hHeld, hzg4, hsg4⟩)
    ·skip
     refine value_ (w1 := ?_) (v := ?_) (by rfl) rfl ?_ ?_
     rotate_left 2
     ·go_simp
      constructor
      ·rfl
      ·rfl
     have hzg4 : PtAt (World.alloc u29 (.cells (pw 0 0 false).toArray 26)) (u29.heap.size) 0 0 false := by have h_ := Row.new u29 26 (pw 0 0 false); first | exact h_ | (simp only [alloc_sz] at h_; exact h_) | omega
     have hsg4 : w1.heap.size ≤ u29.heap.size := by have h_ := hHeld.size; first | exact h_ | (simp only [alloc_sz] at h_; exact h_) | omega
     refine hK.out _ _ (below_alloc hHeld _) (fun hHeld => ?_)
     clear hK K
     refine nm_ (some 4) ?_
     refine on1_ 4 (some 14) (bs 9 159) rfl fun K hK => ?_
     refine value_ (w1 := _) (v := .slice (some ⟨b, o + 32, none⟩) 32 (c - 32)) (by rfl) rfl (rs_lo (x := .tmp 13) H64.out rfl rfl _) ?_
     refine hK.out _ _ (hHeld) (fun hHeld => ?_)
     clear hK K
     refine nm_ (some 14) ?_
     refine on1_ 5 (some 15) (bs 9 191) rfl fun K hK => ?_
     refine gs_ Try.func49 #[.slice (some ⟨b, o + 32, none⟩) 32 (c - 32)] rfl ?_
     with_reducible refine (K2.out _ (bl_on HB.out hHeld HB.out.size)).mono ?_
     rintro e u30 ⟨rfl, hb_u30⟩
     refine ⟨_, rfl, ?_⟩
     have hq_u30 := bl_on hHeld hb_u30 hHeld.size
     replace hzg4 := hzg4.on hb_u30
     refine hK.out _ _ (hq_u30) (fun hHeld => ?_)
     clear hK K
     refine nm_ (some 15) ?_
     refine on1_ 6 (some 16) (bs 9 255) rfl fun K hK => ?_
     refine value_ (w1 := _) (v := ptV x y false) (by rfl) rfl (rb_pt _ (.tmp 12) (.tmp 15) rfl rfl rfl) ?_
     refine hK.out _ _ (hHeld) (fun hHeld => ?_)
     clear hK K
     refine nm_ (some 16) ?_
     exact norm_ (by simp only [putAll, aS]) (hCont (u29.heap.size) _ ⟨hHeld, hzg4, hsg4⟩)
   ·skip
    refine value_ (w1 := _) (v := .slice (some ⟨b, o + 32, none⟩) 32 (c - 32)) (by rfl) rfl (rs_lo (x := .tmp 13) H64.out rfl rfl _) ?_
    refine hK.out _ _ (hHeld) (fun hHeld => ?_)
    clear hK K
    refine nm_ (some 14) ?_
    refine tw_ 2 7 (some 12) (some 4) (bs 9 31) (bs 9 155) rfl rfl (fun K hK => ?_) (fun K hK => ?_)
    ·skip
     refine gs_ Try.func49 #[.slice (some ⟨b, o, none⟩) 32 c] rfl ?_
     with_reducible refine (K1.out _ (bl_on HB.out hHeld HB.out.size)).mono ?_
     rintro e u29 ⟨rfl, hb_u29⟩
     refine ⟨_, rfl, ?_⟩
     have hq_u29 := bl_on hHeld hb_u29 hHeld.size
     refine hK.out _ _ (hq_u29) (fun hHeld => ?_)
     clear hK K
     refine nm_ (some 12) ?_
     refine tw_ 5 7 (some 15) (some 4) (bs 9 63) (bs 9 159) rfl rfl (fun K hK => ?_) (fun K hK => ?_)
     ·skip
      refine gs_ Try.func49 #[.slice (some ⟨b, o + 32, none⟩) 32 (c - 32)] rfl ?_
      with_reducible refine (K2.out _ (bl_on HB.out hHeld HB.out.size)).mono ?_
      rintro e u30 ⟨rfl, hb_u30⟩
      refine ⟨_, rfl, ?_⟩
      have hq_u30 := bl_on hHeld hb_u30 hHeld.size
      refine hK.out _ _ (hq_u30) (fun hHeld => ?_)
      clear hK K
      refine nm_ (some 15) ?_
      refine tw_ 6 7 (some 16) (some 4) (bs 9 127) (bs 9 191) rfl rfl (fun K hK => ?_) (fun K hK => ?_)
      ·skip
       refine value_ (w1 := _) (v := ptV x y false) (by rfl) rfl (rb_pt _ (.tmp 12) (.tmp 15) rfl rfl rfl) ?_
       refine hK.out _ _ (hHeld) (fun hHeld => ?_)
       clear hK K
       refine nm_ (some 16) ?_
       refine on1_ 7 (some 4) (bs 9 255) rfl fun K hK => ?_
       refine value_ (w1 := ?_) (v := ?_) (by rfl) rfl ?_ ?_
       rotate_left 2
       ·go_simp
        constructor
        ·rfl
        ·rfl
       have hzg4 : PtAt (World.alloc u30 (.cells (pw 0 0 false).toArray 26)) (u30.heap.size) 0 0 false := by have h_ := Row.new u30 26 (pw 0 0 false); first | exact h_ | (simp only [alloc_sz] at h_; exact h_) | omega
       have hsg4 : w1.heap.size ≤ u30.heap.size := by have h_ := hHeld.size; first | exact h_ | (simp only [alloc_sz] at h_; exact h_) | omega
       refine hK.out _ _ (below_alloc hHeld _) (fun hHeld => ?_)
       clear hK K
       refine nm_ (some 4) ?_
       exact norm_ (by simp only [putAll, aS]) (hCont (u30.heap.size) _ ⟨hHeld, hzg4, hsg4⟩)
      ·skip
       refine value_ (w1 := ?_) (v := ?_) (by rfl) rfl ?_ ?_
       rotate_left 2
       ·go_simp
        constructor
        ·rfl
        ·rfl
       have hzg4 : PtAt (World.alloc u30 (.cells (pw 0 0 false).toArray 26)) (u30.heap.size) 0 0 false := by have h_ := Row.new u30 26 (pw 0 0 false); first | exact h_ | (simp only [alloc_sz] at h_; exact h_) | omega
       have hsg4 : w1.heap.size ≤ u30.heap.size := by have h_ := hHeld.size; first | exact h_ | (simp only [alloc_sz] at h_; exact h_) | omega
       refine hK.out _ _ (below_alloc hHeld _) (fun hHeld => ?_)
       clear hK K
       refine nm_ (some 4) ?_
       refine on1_ 6 (some 16) (bs 9 255) rfl fun K hK => ?_
       refine value_ (w1 := _) (v := ptV x y false) (by rfl) rfl (rb_pt _ (.tmp 12) (.tmp 15) rfl rfl rfl) ?_
       refine hK.out _ _ (hHeld) (fun hHeld => ?_)
       clear hK K
       refine nm_ (some 16) ?_
       exact norm_ (by simp only [putAll, aS]) (hCont (u30.heap.size) _ ⟨hHeld, hzg4, hsg4⟩)
     ·skip
      refine value_ (w1 := ?_) (v := ?_) (by rfl) rfl ?_ ?_
      rotate_left 2
      ·go_simp
       constructor
       ·rfl
       ·rfl
      have hzg4 : PtAt (World.alloc u29 (.cells (pw 0 0 false).toArray 26)) (u29.heap.size) 0 0 false := by have h_ := Row.new u29 26 (pw 0 0 false); first | exact h_ | (simp only [alloc_sz] at h_; exact h_) | omega
      have hsg4 : w1.heap.size ≤ u29.heap.size := by have h_ := hHeld.size; first | exact h_ | (simp only [alloc_sz] at h_; exact h_) | omega
      refine hK.out _ _ (below_alloc hHeld _) (fun hHeld => ?_)
      clear hK K
      refine nm_ (some 4) ?_
      refine on1_ 5 (some 15) (bs 9 191) rfl fun K hK => ?_
      refine gs_ Try.func49 #[.slice (some ⟨b, o + 32, none⟩) 32 (c - 32)] rfl ?_
      with_reducible refine (K2.out _ (bl_on HB.out hHeld HB.out.size)).mono ?_
      rintro e u30 ⟨rfl, hb_u30⟩
      refine ⟨_, rfl, ?_⟩
      have hq_u30 := bl_on hHeld hb_u30 hHeld.size
      replace hzg4 := hzg4.on hb_u30
      refine hK.out _ _ (hq_u30) (fun hHeld => ?_)
      clear hK K
      refine nm_ (some 15) ?_
      refine on1_ 6 (some 16) (bs 9 255) rfl fun K hK => ?_
      refine value_ (w1 := _) (v := ptV x y false) (by rfl) rfl (rb_pt _ (.tmp 12) (.tmp 15) rfl rfl rfl) ?_
      refine hK.out _ _ (hHeld) (fun hHeld => ?_)
      clear hK K
      refine nm_ (some 16) ?_
      exact norm_ (by simp only [putAll, aS]) (hCont (u29.heap.size) _ ⟨hHeld, hzg4, hsg4⟩)
    ·skip
     refine value_ (w1 := ?_) (v := ?_) (by rfl) rfl ?_ ?_
     rotate_left 2
     ·go_simp
      constructor
      ·rfl
      ·rfl
     have hzg4 : PtAt (World.alloc (World.drew w1) (.cells (pw 0 0 false).toArray 26)) (w1.heap.size) 0 0 false := by have h_ := Row.new (World.drew w1) 26 (pw 0 0 false); first | exact h_ | (simp only [alloc_sz] at h_; exact h_) | omega
     have hsg4 : w1.heap.size ≤ w1.heap.size := by have h_ := hHeld.size; first | exact h_ | (simp only [alloc_sz] at h_; exact h_) | omega
     refine hK.out _ _ (below_alloc hHeld _) (fun hHeld => ?_)
     clear hK K
     refine nm_ (some 4) ?_
     refine on1_ 2 (some 12) (bs 9 159) rfl fun K hK => ?_
     refine gs_ Try.func49 #[.slice (some ⟨b, o, none⟩) 32 c] rfl ?_
     with_reducible refine (K1.out _ (bl_on HB.out hHeld HB.out.size)).mono ?_
     rintro e u29 ⟨rfl, hb_u29⟩
     refine ⟨_, rfl, ?_⟩
     have hq_u29 := bl_on hHeld hb_u29 hHeld.size
     replace hzg4 := hzg4.on hb_u29
     refine hK.out _ _ (hq_u29) (fun hHeld => ?_)
     clear hK K
     refine nm_ (some 12) ?_
     refine on1_ 5 (some 15) (bs 9 191) rfl fun K hK => ?_
     refine gs_ Try.func49 #[.slice (some ⟨b, o + 32, none⟩) 32 (c - 32)] rfl ?_
     with_reducible refine (K2.out _ (bl_on HB.out hHeld HB.out.size)).mono ?_
     rintro e u30 ⟨rfl, hb_u30⟩
     refine ⟨_, rfl, ?_⟩
     have hq_u30 := bl_on hHeld hb_u30 hHeld.size
     replace hzg4 := hzg4.on hb_u30
     refine hK.out _ _ (hq_u30) (fun hHeld => ?_)
     clear hK K
     refine nm_ (some 15) ?_
     refine on1_ 6 (some 16) (bs 9 255) rfl fun K hK => ?_
     refine value_ (w1 := _) (v := ptV x y false) (by rfl) rfl (rb_pt _ (.tmp 12) (.tmp 15) rfl rfl rfl) ?_
     refine hK.out _ _ (hHeld) (fun hHeld => ?_)
     clear hK K
     refine nm_ (some 16) ?_
     exact norm_ (by simp only [putAll, aS]) (hCont (w1.heap.size) _ ⟨hHeld, hzg4, hsg4⟩)
   ·skip
    refine value_ (w1 := ?_) (v := ?_) (by rfl) rfl ?_ ?_
    rotate_left 2
    ·go_simp
     constructor
     ·rfl
     ·rfl
    have hzg4 : PtAt (World.alloc (World.drew w1) (.cells (pw 0 0 false).toArray 26)) (w1.heap.size) 0 0 false := by have h_ := Row.new (World.drew w1) 26 (pw 0 0 false); first | exact h_ | (simp only [alloc_sz] at h_; exact h_) | omega
    have hsg4 : w1.heap.size ≤ w1.heap.size := by have h_ := hHeld.size; first | exact h_ | (simp only [alloc_sz] at h_; exact h_) | omega
    refine hK.out _ _ (below_alloc hHeld _) (fun hHeld => ?_)
    clear hK K
    refine nm_ (some 4) ?_
    refine tw_ 2 4 (some 12) (some 14) (bs 9 143) (bs 9 155) rfl rfl (fun K hK => ?_) (fun K hK => ?_)
    ·skip
     refine gs_ Try.func49 #[.slice (some ⟨b, o, none⟩) 32 c] rfl ?_
     with_reducible refine (K1.out _ (bl_on HB.out hHeld HB.out.size)).mono ?_
     rintro e u29 ⟨rfl, hb_u29⟩
     refine ⟨_, rfl, ?_⟩
     have hq_u29 := bl_on hHeld hb_u29 hHeld.size
     replace hzg4 := hzg4.on hb_u29
     refine hK.out _ _ (hq_u29) (fun hHeld => ?_)
     clear hK K
     refine nm_ (some 12) ?_
     refine on1_ 4 (some 14) (bs 9 159) rfl fun K hK => ?_
     refine value_ (w1 := _) (v := .slice (some ⟨b, o + 32, none⟩) 32 (c - 32)) (by rfl) rfl (rs_lo (x := .tmp 13) H64.out rfl rfl _) ?_
     refine hK.out _ _ (hHeld) (fun hHeld => ?_)
     clear hK K
     refine nm_ (some 14) ?_
     refine on1_ 5 (some 15) (bs 9 191) rfl fun K hK => ?_
     refine gs_ Try.func49 #[.slice (some ⟨b, o + 32, none⟩) 32 (c - 32)] rfl ?_
     with_reducible refine (K2.out _ (bl_on HB.out hHeld HB.out.size)).mono ?_
     rintro e u30 ⟨rfl, hb_u30⟩
     refine ⟨_, rfl, ?_⟩
     have hq_u30 := bl_on hHeld hb_u30 hHeld.size
     replace hzg4 := hzg4.on hb_u30
     refine hK.out _ _ (hq_u30) (fun hHeld => ?_)
     clear hK K
     refine nm_ (some 15) ?_
     refine on1_ 6 (some 16) (bs 9 255) rfl fun K hK => ?_
     refine value_ (w1 := _) (v := ptV x y false) (by rfl) rfl (rb_pt _ (.tmp 12) (.tmp 15) rfl rfl rfl) ?_
     refine hK.out _ _ (hHeld) (fun hHeld => ?_)
     clear hK K
     refine nm_ (some 16) ?_
     exact norm_ (by simp only [putAll, aS]) (hCont (w1.heap.size) _ ⟨hHeld, hzg4, hsg4⟩)
    ·skip
     refine value_ (w1 := _) (v := .slice (some ⟨b, o + 32, none⟩) 32 (c - 32)) (by rfl) rfl (rs_lo (x := .tmp 13) H64.out rfl rfl _) ?_
     refine hK.out _ _ (hHeld) (fun hHeld => ?_)
     clear hK K
     refine nm_ (some 14) ?_
     refine on1_ 2 (some 12) (bs 9 159) rfl fun K hK => ?_
     refine gs_ Try.func49 #[.slice (some ⟨b, o, none⟩) 32 c] rfl ?_
     with_reducible refine (K1.out _ (bl_on HB.out hHeld HB.out.size)).mono ?_
     rintro e u29 ⟨rfl, hb_u29⟩
     refine ⟨_, rfl, ?_⟩
     have hq_u29 := bl_on hHeld hb_u29 hHeld.size
     replace hzg4 := hzg4.on hb_u29
     refine hK.out _ _ (hq_u29) (fun hHeld => ?_)
     clear hK K
     refine nm_ (some 12) ?_
     refine on1_ 5 (some 15) (bs 9 191) rfl fun K hK => ?_
     refine gs_ Try.func49 #[.slice (some ⟨b, o + 32, none⟩) 32 (c - 32)] rfl ?_
     with_reducible refine (K2.out _ (bl_on HB.out hHeld HB.out.size)).mono ?_
     rintro e u30 ⟨rfl, hb_u30⟩
     refine ⟨_, rfl, ?_⟩
     have hq_u30 := bl_on hHeld hb_u30 hHeld.size
     replace hzg4 := hzg4.on hb_u30
     refine hK.out _ _ (hq_u30) (fun hHeld => ?_)
     clear hK K
     refine nm_ (some 15) ?_
     refine on1_ 6 (some 16) (bs 9 255) rfl fun K hK => ?_
     refine value_ (w1 := _) (v := ptV x y false) (by rfl) rfl (rb_pt _ (.tmp 12) (.tmp 15) rfl rfl rfl) ?_
     refine hK.out _ _ (hHeld) (fun hHeld => ?_)
     clear hK K
     refine nm_ (some 16) ?_
     exact norm_ (by simp only [putAll, aS]) (hCont (w1.heap.size) _ ⟨hHeld, hzg4, hsg4⟩)
  ·skip
   refine value_ (w1 := _) (v := .slice (some ⟨b, o + 32, none⟩) 32 (c - 32)) (by rfl) rfl (rs_lo (x := .tmp 13) H64.out rfl rfl _) ?_
   refine hK.out _ _ (hHeld) (fun hHeld => ?_)
   clear hK K
   refine nm_ (some 14) ?_
   refine tw_ 1 7 (some 11) (some 4) (bs 9 27) (bs 9 153) rfl rfl (fun K hK => ?_) (fun K hK => ?_)
   ·skip
    refine value_ (w1 := _) (v := .slice (some ⟨b, o, none⟩) 32 c) (by rfl) rfl (rs_hi (x := .tmp 10) H64.out rfl rfl _) ?_
    refine hK.out _ _ (hHeld) (fun hHeld => ?_)
    clear hK K
    refine nm_ (some 11) ?_
    refine tw_ 2 7 (some 12) (some 4) (bs 9 31) (bs 9 155) rfl rfl (fun K hK => ?_) (fun K hK => ?_)
    ·skip
     refine gs_ Try.func49 #[.slice (some ⟨b, o, none⟩) 32 c] rfl ?_
     with_reducible refine (K1.out _ (bl_on HB.out hHeld HB.out.size)).mono ?_
     rintro e u29 ⟨rfl, hb_u29⟩
     refine ⟨_, rfl, ?_⟩
     have hq_u29 := bl_on hHeld hb_u29 hHeld.size
     refine hK.out _ _ (hq_u29) (fun hHeld => ?_)
     clear hK K
     refine nm_ (some 12) ?_
     refine tw_ 5 7 (some 15) (some 4) (bs 9 63) (bs 9 159) rfl rfl (fun K hK => ?_) (fun K hK => ?_)
     ·skip
      refine gs_ Try.func49 #[.slice (some ⟨b, o + 32, none⟩) 32 (c - 32)] rfl ?_
      with_reducible refine (K2.out _ (bl_on HB.out hHeld HB.out.size)).mono ?_
      rintro e u30 ⟨rfl, hb_u30⟩
      refine ⟨_, rfl, ?_⟩
      have hq_u30 := bl_on hHeld hb_u30 hHeld.size
      refine hK.out _ _ (hq_u30) (fun hHeld => ?_)
      clear hK K
      refine nm_ (some 15) ?_
      refine tw_ 6 7 (some 16) (some 4) (bs 9 127) (bs 9 191) rfl rfl (fun K hK => ?_) (fun K hK => ?_)
      ·skip
       refine value_ (w1 := _) (v := ptV x y false) (by rfl) rfl (rb_pt _ (.tmp 12) (.tmp 15) rfl rfl rfl) ?_
       refine hK.out _ _ (hHeld) (fun hHeld => ?_)
       clear hK K
       refine nm_ (some 16) ?_
       refine on1_ 7 (some 4) (bs 9 255) rfl fun K hK => ?_
       refine value_ (w1 := ?_) (v := ?_) (by rfl) rfl ?_ ?_
       rotate_left 2
       ·go_simp
        constructor
        ·rfl
        ·rfl
       have hzg4 : PtAt (World.alloc u30 (.cells (pw 0 0 false).toArray 26)) (u30.heap.size) 0 0 false := by have h_ := Row.new u30 26 (pw 0 0 false); first | exact h_ | (simp only [alloc_sz] at h_; exact h_) | omega
       have hsg4 : w1.heap.size ≤ u30.heap.size := by have h_ := hHeld.size; first | exact h_ | (simp only [alloc_sz] at h_; exact h_) | omega
       refine hK.out _ _ (below_alloc hHeld _) (fun hHeld => ?_)
       clear hK K
       refine nm_ (some 4) ?_
       exact norm_ (by simp only [putAll, aS]) (hCont (u30.heap.size) _ ⟨hHeld, hzg4, hsg4⟩)
      ·skip
       refine value_ (w1 := ?_) (v := ?_) (by rfl) rfl ?_ ?_
       rotate_left 2
       ·go_simp
        constructor
        ·rfl
        ·rfl
       have hzg4 : PtAt (World.alloc u30 (.cells (pw 0 0 false).toArray 26)) (u30.heap.size) 0 0 false := by have h_ := Row.new u30 26 (pw 0 0 false); first | exact h_ | (simp only [alloc_sz] at h_; exact h_) | omega
       have hsg4 : w1.heap.size ≤ u30.heap.size := by have h_ := hHeld.size; first | exact h_ | (simp only [alloc_sz] at h_; exact h_) | omega
       refine hK.out _ _ (below_alloc hHeld _) (fun hHeld => ?_)
       clear hK K
       refine nm_ (some 4) ?_
       refine on1_ 6 (some 16) (bs 9 255) rfl fun K hK => ?_
       refine value_ (w1 := _) (v := ptV x y false) (by rfl) rfl (rb_pt _ (.tmp 12) (.tmp 15) rfl rfl rfl) ?_
       refine hK.out _ _ (hHeld) (fun hHeld => ?_)
       clear hK K
       refine nm_ (some 16) ?_
       exact norm_ (by simp only [putAll, aS]) (hCont (u30.heap.size) _ ⟨hHeld, hzg4, hsg4⟩)
     ·skip
      refine value_ (w1 := ?_) (v := ?_) (by rfl) rfl ?_ ?_
      rotate_left 2
      ·go_simp
       constructor
       ·rfl
       ·rfl
      have hzg4 : PtAt (World.alloc u29 (.cells (pw 0 0 false).toArray 26)) (u29.heap.size) 0 0 false := by have h_ := Row.new u29 26 (pw 0 0 false); first | exact h_ | (simp only [alloc_sz] at h_; exact h_) | omega
      have hsg4 : w1.heap.size ≤ u29.heap.size := by have h_ := hHeld.size; first | exact h_ | (simp only [alloc_sz] at h_; exact h_) | omega
      refine hK.out _ _ (below_alloc hHeld _) (fun hHeld => ?_)
      clear hK K
      refine nm_ (some 4) ?_
      refine on1_ 5 (some 15) (bs 9 191) rfl fun K hK => ?_
      refine gs_ Try.func49 #[.slice (some ⟨b, o + 32, none⟩) 32 (c - 32)] rfl ?_
      with_reducible refine (K2.out _ (bl_on HB.out hHeld HB.out.size)).mono ?_
      rintro e u30 ⟨rfl, hb_u30⟩
      refine ⟨_, rfl, ?_⟩
      have hq_u30 := bl_on hHeld hb_u30 hHeld.size
      replace hzg4 := hzg4.on hb_u30
      refine hK.out _ _ (hq_u30) (fun hHeld => ?_)
      clear hK K
      refine nm_ (some 15) ?_
      refine on1_ 6 (some 16) (bs 9 255) rfl fun K hK => ?_
      refine value_ (w1 := _) (v := ptV x y false) (by rfl) rfl (rb_pt _ (.tmp 12) (.tmp 15) rfl rfl rfl) ?_
      refine hK.out _ _ (hHeld) (fun hHeld => ?_)
      clear hK K
      refine nm_ (some 16) ?_
      exact norm_ (by simp only [putAll, aS]) (hCont (u29.heap.size) _ ⟨hHeld, hzg4, hsg4⟩)
    ·skip
     refine value_ (w1 := ?_) (v := ?_) (by rfl) rfl ?_ ?_
     rotate_left 2
     ·go_simp
      constructor
      ·rfl
      ·rfl
     have hzg4 : PtAt (World.alloc (World.drew w1) (.cells (pw 0 0 false).toArray 26)) (w1.heap.size) 0 0 false := by have h_ := Row.new (World.drew w1) 26 (pw 0 0 false); first | exact h_ | (simp only [alloc_sz] at h_; exact h_) | omega
     have hsg4 : w1.heap.size ≤ w1.heap.size := by have h_ := hHeld.size; first | exact h_ | (simp only [alloc_sz] at h_; exact h_) | omega
     refine hK.out _ _ (below_alloc hHeld _) (fun hHeld => ?_)
     clear hK K
     refine nm_ (some 4) ?_
     refine on1_ 2 (some 12) (bs 9 159) rfl fun K hK => ?_
     refine gs_ Try.func49 #[.slice (some ⟨b, o, none⟩) 32 c] rfl ?_
     with_reducible refine (K1.out _ (bl_on HB.out hHeld HB.out.size)).mono ?_
     rintro e u29 ⟨rfl, hb_u29⟩
     refine ⟨_, rfl, ?_⟩
     have hq_u29 := bl_on hHeld hb_u29 hHeld.size
     replace hzg4 := hzg4.on hb_u29
     refine hK.out _ _ (hq_u29) (fun hHeld => ?_)
     clear hK K
     refine nm_ (some 12) ?_
     refine on1_ 5 (some 15) (bs 9 191) rfl fun K hK => ?_
     refine gs_ Try.func49 #[.slice (some ⟨b, o + 32, none⟩) 32 (c - 32)] rfl ?_
     with_reducible refine (K2.out _ (bl_on HB.out hHeld HB.out.size)).mono ?_
     rintro e u30 ⟨rfl, hb_u30⟩
     refine ⟨_, rfl, ?_⟩
     have hq_u30 := bl_on hHeld hb_u30 hHeld.size
     replace hzg4 := hzg4.on hb_u30
     refine hK.out _ _ (hq_u30) (fun hHeld => ?_)
     clear hK K
     refine nm_ (some 15) ?_
     refine on1_ 6 (some 16) (bs 9 255) rfl fun K hK => ?_
     refine value_ (w1 := _) (v := ptV x y false) (by rfl) rfl (rb_pt _ (.tmp 12) (.tmp 15) rfl rfl rfl) ?_
     refine hK.out _ _ (hHeld) (fun hHeld => ?_)
     clear hK K
     refine nm_ (some 16) ?_
     exact norm_ (by simp only [putAll, aS]) (hCont (w1.heap.size) _ ⟨hHeld, hzg4, hsg4⟩)
   ·skip
    refine value_ (w1 := ?_) (v := ?_) (by rfl) rfl ?_ ?_
    rotate_left 2
    ·go_simp
     constructor
     ·rfl
     ·rfl
    have hzg4 : PtAt (World.alloc (World.drew w1) (.cells (pw 0 0 false).toArray 26)) (w1.heap.size) 0 0 false := by have h_ := Row.new (World.drew w1) 26 (pw 0 0 false); first | exact h_ | (simp only [alloc_sz] at h_; exact h_) | omega
    have hsg4 : w1.heap.size ≤ w1.heap.size := by have h_ := hHeld.size; first | exact h_ | (simp only [alloc_sz] at h_; exact h_) | omega
    refine hK.out _ _ (below_alloc hHeld _) (fun hHeld => ?_)
    clear hK K
    refine nm_ (some 4) ?_
    refine on1_ 1 (some 11) (bs 9 155) rfl fun K hK => ?_
    refine value_ (w1 := _) (v := .slice (some ⟨b, o, none⟩) 32 c) (by rfl) rfl (rs_hi (x := .tmp 10) H64.out rfl rfl _) ?_
    refine hK.out _ _ (hHeld) (fun hHeld => ?_)
    clear hK K
    refine nm_ (some 11) ?_
    refine on1_ 2 (some 12) (bs 9 159) rfl fun K hK => ?_
    refine gs_ Try.func49 #[.slice (some ⟨b, o, none⟩) 32 c] rfl ?_
    with_reducible refine (K1.out _ (bl_on HB.out hHeld HB.out.size)).mono ?_
    rintro e u29 ⟨rfl, hb_u29⟩
    refine ⟨_, rfl, ?_⟩
    have hq_u29 := bl_on hHeld hb_u29 hHeld.size
    replace hzg4 := hzg4.on hb_u29
    refine hK.out _ _ (hq_u29) (fun hHeld => ?_)
    clear hK K
    refine nm_ (some 12) ?_
    refine on1_ 5 (some 15) (bs 9 191) rfl fun K hK => ?_
    refine gs_ Try.func49 #[.slice (some ⟨b, o + 32, none⟩) 32 (c - 32)] rfl ?_
    with_reducible refine (K2.out _ (bl_on HB.out hHeld HB.out.size)).mono ?_
    rintro e u30 ⟨rfl, hb_u30⟩
    refine ⟨_, rfl, ?_⟩
    have hq_u30 := bl_on hHeld hb_u30 hHeld.size
    replace hzg4 := hzg4.on hb_u30
    refine hK.out _ _ (hq_u30) (fun hHeld => ?_)
    clear hK K
    refine nm_ (some 15) ?_
    refine on1_ 6 (some 16) (bs 9 255) rfl fun K hK => ?_
    refine value_ (w1 := _) (v := ptV x y false) (by rfl) rfl (rb_pt _ (.tmp 12) (.tmp 15) rfl rfl rfl) ?_
    refine hK.out _ _ (hHeld) (fun hHeld => ?_)
    clear hK K
    refine nm_ (some 16) ?_
    exact norm_ (by simp only [putAll, aS]) (hCont (w1.heap.size) _ ⟨hHeld, hzg4, hsg4⟩)
  ·skip
   refine value_ (w1 := ?_) (v := ?_) (by rfl) rfl ?_ ?_
   rotate_left 2
   ·go_simp
    constructor
    ·rfl
    ·rfl
   have hzg4 : PtAt (World.alloc (World.drew w1) (.cells (pw 0 0 false).toArray 26)) (w1.heap.size) 0 0 false := by have h_ := Row.new (World.drew w1) 26 (pw 0 0 false); first | exact h_ | (simp only [alloc_sz] at h_; exact h_) | omega
   have hsg4 : w1.heap.size ≤ w1.heap.size := by have h_ := hHeld.size; first | exact h_ | (simp only [alloc_sz] at h_; exact h_) | omega
   refine hK.out _ _ (below_alloc hHeld _) (fun hHeld => ?_)
   clear hK K
   refine nm_ (some 4) ?_
   refine tw_ 1 4 (some 11) (some 14) (bs 9 139) (bs 9 153) rfl rfl (fun K hK => ?_) (fun K hK => ?_)
   ·skip
    refine value_ (w1 := _) (v := .slice (some ⟨b, o, none⟩) 32 c) (by rfl) rfl (rs_hi (x := .tmp 10) H64.out rfl rfl _) ?_
    refine hK.out _ _ (hHeld) (fun hHeld => ?_)
    clear hK K
    refine nm_ (some 11) ?_
    refine tw_ 2 4 (some 12) (some 14) (bs 9 143) (bs 9 155) rfl rfl (fun K hK => ?_) (fun K hK => ?_)
    ·skip
     refine gs_ Try.func49 #[.slice (some ⟨b, o, none⟩) 32 c] rfl ?_
     with_reducible refine (K1.out _ (bl_on HB.out hHeld HB.out.size)).mono ?_
     rintro e u29 ⟨rfl, hb_u29⟩
     refine ⟨_, rfl, ?_⟩
     have hq_u29 := bl_on hHeld hb_u29 hHeld.size
     replace hzg4 := hzg4.on hb_u29
     refine hK.out _ _ (hq_u29) (fun hHeld => ?_)
     clear hK K
     refine nm_ (some 12) ?_
     refine on1_ 4 (some 14) (bs 9 159) rfl fun K hK => ?_
     refine value_ (w1 := _) (v := .slice (some ⟨b, o + 32, none⟩) 32 (c - 32)) (by rfl) rfl (rs_lo (x := .tmp 13) H64.out rfl rfl _) ?_
     refine hK.out _ _ (hHeld) (fun hHeld => ?_)
     clear hK K
     refine nm_ (some 14) ?_
     refine on1_ 5 (some 15) (bs 9 191) rfl fun K hK => ?_
     refine gs_ Try.func49 #[.slice (some ⟨b, o + 32, none⟩) 32 (c - 32)] rfl ?_
     with_reducible refine (K2.out _ (bl_on HB.out hHeld HB.out.size)).mono ?_
     rintro e u30 ⟨rfl, hb_u30⟩
     refine ⟨_, rfl, ?_⟩
     have hq_u30 := bl_on hHeld hb_u30 hHeld.size
     replace hzg4 := hzg4.on hb_u30
     refine hK.out _ _ (hq_u30) (fun hHeld => ?_)
     clear hK K
     refine nm_ (some 15) ?_
     refine on1_ 6 (some 16) (bs 9 255) rfl fun K hK => ?_
     refine value_ (w1 := _) (v := ptV x y false) (by rfl) rfl (rb_pt _ (.tmp 12) (.tmp 15) rfl rfl rfl) ?_
     refine hK.out _ _ (hHeld) (fun hHeld => ?_)
     clear hK K
     refine nm_ (some 16) ?_
     exact norm_ (by simp only [putAll, aS]) (hCont (w1.heap.size) _ ⟨hHeld, hzg4, hsg4⟩)
    ·skip
     refine value_ (w1 := _) (v := .slice (some ⟨b, o + 32, none⟩) 32 (c - 32)) (by rfl) rfl (rs_lo (x := .tmp 13) H64.out rfl rfl _) ?_
     refine hK.out _ _ (hHeld) (fun hHeld => ?_)
     clear hK K
     refine nm_ (some 14) ?_
     refine on1_ 2 (some 12) (bs 9 159) rfl fun K hK => ?_
     refine gs_ Try.func49 #[.slice (some ⟨b, o, none⟩) 32 c] rfl ?_
     with_reducible refine (K1.out _ (bl_on HB.out hHeld HB.out.size)).mono ?_
     rintro e u29 ⟨rfl, hb_u29⟩
     refine ⟨_, rfl, ?_⟩
     have hq_u29 := bl_on hHeld hb_u29 hHeld.size
     replace hzg4 := hzg4.on hb_u29
     refine hK.out _ _ (hq_u29) (fun hHeld => ?_)
     clear hK K
     refine nm_ (some 12) ?_
     refine on1_ 5 (some 15) (bs 9 191) rfl fun K hK => ?_
     refine gs_ Try.func49 #[.slice (some ⟨b, o + 32, none⟩) 32 (c - 32)] rfl ?_
     with_reducible refine (K2.out _ (bl_on HB.out hHeld HB.out.size)).mono ?_
     rintro e u30 ⟨rfl, hb_u30⟩
     refine ⟨_, rfl, ?_⟩
     have hq_u30 := bl_on hHeld hb_u30 hHeld.size
     replace hzg4 := hzg4.on hb_u30
     refine hK.out _ _ (hq_u30) (fun hHeld => ?_)
     clear hK K
     refine nm_ (some 15) ?_
     refine on1_ 6 (some 16) (bs 9 255) rfl fun K hK => ?_
     refine value_ (w1 := _) (v := ptV x y false) (by rfl) rfl (rb_pt _ (.tmp 12) (.tmp 15) rfl rfl rfl) ?_
     refine hK.out _ _ (hHeld) (fun hHeld => ?_)
     clear hK K
     refine nm_ (some 16) ?_
     exact norm_ (by simp only [putAll, aS]) (hCont (w1.heap.size) _ ⟨hHeld, hzg4, hsg4⟩)
   ·skip
    refine value_ (w1 := _) (v := .slice (some ⟨b, o + 32, none⟩) 32 (c - 32)) (by rfl) rfl (rs_lo (x := .tmp 13) H64.out rfl rfl _) ?_
    refine hK.out _ _ (hHeld) (fun hHeld => ?_)
    clear hK K
    refine nm_ (some 14) ?_
    refine on1_ 1 (some 11) (bs 9 155) rfl fun K hK => ?_
    refine value_ (w1 := _) (v := .slice (some ⟨b, o, none⟩) 32 c) (by rfl) rfl (rs_hi (x := .tmp 10) H64.out rfl rfl _) ?_
    refine hK.out _ _ (hHeld) (fun hHeld => ?_)
    clear hK K
    refine nm_ (some 11) ?_
    refine on1_ 2 (some 12) (bs 9 159) rfl fun K hK => ?_
    refine gs_ Try.func49 #[.slice (some ⟨b, o, none⟩) 32 c] rfl ?_
    with_reducible refine (K1.out _ (bl_on HB.out hHeld HB.out.size)).mono ?_
    rintro e u29 ⟨rfl, hb_u29⟩
    refine ⟨_, rfl, ?_⟩
    have hq_u29 := bl_on hHeld hb_u29 hHeld.size
    replace hzg4 := hzg4.on hb_u29
    refine hK.out _ _ (hq_u29) (fun hHeld => ?_)
    clear hK K
    refine nm_ (some 12) ?_
    refine on1_ 5 (some 15) (bs 9 191) rfl fun K hK => ?_
    refine gs_ Try.func49 #[.slice (some ⟨b, o + 32, none⟩) 32 (c - 32)] rfl ?_
    with_reducible refine (K2.out _ (bl_on HB.out hHeld HB.out.size)).mono ?_
    rintro e u30 ⟨rfl, hb_u30⟩
    refine ⟨_, rfl, ?_⟩
    have hq_u30 := bl_on hHeld hb_u30 hHeld.size
    replace hzg4 := hzg4.on hb_u30
    refine hK.out _ _ (hq_u30) (fun hHeld => ?_)
    clear hK K
    refine nm_ (some 15) ?_
    refine on1_ 6 (some 16) (bs 9 255) rfl fun K hK => ?_
    refine value_ (w1 := _) (v := ptV x y false) (by rfl) rfl (rb_pt _ (.tmp 12) (.tmp 15) rfl rfl rfl) ?_
    refine hK.out _ _ (hHeld) (fun hHeld => ?_)
    clear hK K
    refine nm_ (some 16) ?_
    exact norm_ (by simp only [putAll, aS]) (hCont (w1.heap.size) _ ⟨hHeld, hzg4, hsg4⟩)
 rintro g4 v31 ⟨hHeld0, hzg4, hsg4⟩
 have hHeld : Below w1.heap.size w1 v31 := hHeld0
 clear hHeld0
 refine norm_ (a' := ?_) ?_ ?_
 rotate_left
 ·simp only [putAll, aS]
  rfl
 refine last_ (i := 8) (N := none) (bs 9 511) rfl rfl (by kernel_rfl) (by decide) (fun K hK => ?_)
 refine skip_pt (x := x) (y := y) (f := false) (hzg4) (by rfl) rfl (.tmp 4) (.tmp 16) rfl rfl rfl ?_
 intro q32 hA_q32 hT_q32
 refine hK.out _ _ ?_
 clear hK K
 refine done_ (by kernel_rfl) ?_
 have HXg4 : Aside0 (w.heap.size + 1 ≤ g4) := Aside0.mk (Nat.le_trans HS.out hsg4)
 replace HR := Aside0.mk (HR.out.on hHeld)
 replace HB := Aside0.mk (bl_on HB.out hHeld HB.out.size)
 replace HS := Aside0.mk (Nat.le_trans HS.out hHeld.size)
 replace HR := Aside0.mk (HR.out.but hT_q32 (by have := HXg4.out; omega))
 have Hg4 := Aside0.mk hA_q32
 replace HB := Aside0.mk (bl_but HB.out hT_q32 HB.out.size (by have := HXg4.out; omega))
 replace HS := Aside0.mk (Nat.le_trans HS.out hT_q32.size)
 clear hA_q32 hT_q32 hzg4 hsg4 hHeld
 go_upto_region 5 with (first | ((with_reducible refine gate_dst (N := 17) rfl ?_); refine ld_pt Hg4.out rfl _ rfl rfl ?_) | ((with_reducible refine gate_dst (N := 18) rfl ?_); refine goesL_ (some 18) rfl rfl Try.func13 (by kernel_rfl) rfl #[ptV x y false] rfl (by (try simp only [List.map_toArray, List.map_cons, List.map_nil]); first | done | rfl) ?_; (with_reducible refine (K3.out _).mono ?_); rintro e u33 ⟨rfl, hb_⟩; refine ⟨_, rfl, ?_⟩; replace HR := Aside0.mk (HR.out.on hb_); replace Hg4 := Aside0.mk (Hg4.out.on hb_); replace HB := Aside0.mk (bl_on HB.out hb_ HB.out.size); replace HS := Aside0.mk (Nat.le_trans HS.out hb_.size); clear hb_))
 go_upto_region 6 with (fail)
 go_wp2_with (first | ((with_reducible refine gate_st (y := .tmp 21) rfl ?_); (try simp only [aS]); refine st_pt (x := 0) (y := 0) (f := false) HR.out rfl _ _ rfl rfl rfl ?_; intro u34 hn_ hb_; replace Hg4 := Aside0.mk (Hg4.out.but hb_ (by have := HXg4.out; omega)); replace HR := Aside0.mk hn_; replace HB := Aside0.mk (bl_but HB.out hb_ HB.out.size (by have := HXg4.out; omega)); replace HS := Aside0.mk (Nat.le_trans HS.out hb_.size); clear hn_ hb_))
 refine bodyPost_ret (v := .tuple #[ptV 0 0 false, .bool false]) (results_pt2 rfl rfl rfl HR.out) rfl ⟨rfl, HB.out⟩
theorem rparse_calls {A : Option Addr} {l : List Nat} {c : Nat} (w : World) (h0 : BAt w A l) (hc : l.length ≤ c) :
  Calls Try.prog 28 #[.slice A l.length c] w fun e w' => e = .returned (rrV l) ∧ Below w.heap.size w w' := by
 by_cases hl : l.length = 64
 ·obtain ⟨b, o, rfl⟩ := h0.some_of (by omega)
  cases hon : onB (b2x l) (b2y l) false
  ·exact rparse_bad w hl (by omega) h0 hon
  ·exact rparse_ok w hl (by omega) h0 hon
 ·exact rparse_len w hl
end Go.Proofs.Ytkfjhndofbmhoaa
