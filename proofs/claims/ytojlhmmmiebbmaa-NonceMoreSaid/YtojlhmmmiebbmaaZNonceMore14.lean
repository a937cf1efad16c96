/- What the proof of NonceMore is made of, part 14. -/
import Derived.Test.YtojlhmmmiebbmaaZNonceMore13
import Derived.Test.YtojlhmmmiebbmaaZNonceMore9
import Derived.Test.YtojlhmmmiebbmaaZNonceMore1
import Derived.Test.YtojlhmmmiebbmaaZNonceMore2
import Derived.Test.YtojlhmmmiebbmaaZNonceMore15
namespace Go.Proofs.Ytojlhmmmiebbmaa
open Go.RowKit Go.Proofs.Ytojlhmmmiebbmaa.Arr Go.Proofs.YtojlhmmmiebbmaaW.PrintWords Go.Proofs.YtojlhmmmiebbmaaW.PrintLast Go.Proofs.YtojlhmmmiebbmaaW.PrintMore
set_option linter.unusedVariables false
set_option linter.unusedSimpArgs false
theorem wp_at {P : Program} {c : Code} {Q : Exit → Act → World → Prop} {a : Act} {w1 w2 : World} (h : w1 = w2) (H : Code.wp P c Q a w2) : Code.wp P c Q a w1 := h ▸ H
theorem alloc_sz (u : World) (o : Obj) : (u.alloc o).heap.size = u.heap.size + 1 := by simp
/-- a number's cells -/
def nw (a : Nat) : List Value := [.int .u64 (wd0 a : Nat), .int .u64 (wd1 a : Nat), .int .u64 (wd2 a : Nat), .int .u64 (wd3 a : Nat)]
theorem nw_one (a : Nat) : ∀ v ∈ nw a, v.oneCell' = true := by
  intro v hv
  simp only [nw, List.mem_cons, List.not_mem_nil, or_false] at hv
  rcases hv with rfl | rfl | rfl | rfl <;> rfl
/-- block g is a variable that holds a number -/
def NAt (w : World) (g a : Nat) : Prop := Row 24 w g (nw a)
/-- block g is a field: modulus, turn, one, square -/
def FAt (w : World) (g m t o s : Nat) : Prop := Row 60 w g (nw m ++ ([.int .u64 (t : Nat)] ++ (nw o ++ nw s)))
/-- a wide number's cells -/
def nx (a : Nat) : List Value := [.int .u64 (wd0 a : Nat), .int .u64 (wd1 a : Nat), .int .u64 (wd2 a : Nat), .int .u64 (wd3 a : Nat), .int .u64 (wd4 a : Nat), .int .u64 (wd5 a : Nat), .int .u64 (wd6 a : Nat), .int .u64 (wd7 a : Nat)]
def XAt (w : World) (g a : Nat) : Prop := Row 63 w g (nx a)
section
variable {w w' : World} {g a m t o s : Nat}
theorem XAt.size (h : XAt w g a) : g < w.heap.size := Row.size h
theorem XAt.below {B : Nat} (h : XAt w g a) (hb : Below B w w') (hg : g < B) : XAt w' g a := Row.below h hb hg
theorem XAt.on (h : XAt w g a) (hb : Below w.heap.size w w') : XAt w' g a := Row.below h hb h.size
theorem XAt.but {g1 : Nat} (h : XAt w g a) (hb : But w.heap.size g1 w w') (hg : g ≠ g1) : XAt w' g a := Row.block h (hb.block g h.size hg)
theorem new_wide (w : World) (a : Nat) : ∃ w1, w.alloc (.cells (nx a).toArray 63) = w1 ∧ XAt w1 w.heap.size a ∧ Below w.heap.size w w1 ∧ w1.heap.size = w.heap.size + 1 :=
  ⟨_, rfl, Row.new w _ _, below_alloc (Below.refl _ _) _, by simp⟩
theorem NAt.size (h : NAt w g a) : g < w.heap.size := Row.size h
theorem NAt.alloc (h : NAt w g a) (x : Obj) : NAt (w.alloc x) g a := Row.alloc h x
theorem NAt.drew (h : NAt w g a) : NAt w.drew g a := h
theorem NAt.below {B : Nat} (h : NAt w g a) (hb : Below B w w') (hg : g < B) : NAt w' g a := Row.below h hb hg
theorem NAt.on (h : NAt w g a) (hb : Below w.heap.size w w') : NAt w' g a := Row.below h hb h.size
theorem NAt.range (h : NAt w g a) : w.rangeAt g 0 (nw a) := Row.range h 0 4
theorem NAt.cell (h : NAt w g a) : w.cell? ⟨g, 0, none⟩ = some (.int .u64 (wd0 a : Nat)) ∧ w.cell? ⟨g, 1, none⟩ = some (.int .u64 (wd1 a : Nat)) ∧ w.cell? ⟨g, 2, none⟩ = some (.int .u64 (wd2 a : Nat)) ∧ w.cell? ⟨g, 3, none⟩ = some (.int .u64 (wd3 a : Nat)) := ⟨Row.cell h _ _ rfl, Row.cell h _ _ rfl, Row.cell h _ _ rfl, Row.cell h _ _ rfl⟩
theorem NAt.free (h : NAt w g a) (i : Nat) : w.frozen? ⟨g, i, none⟩ = false := Row.free h i
theorem NAt.there (h : NAt w g a) : w.there g 0 4 := Row.there h 0 4 (Nat.le_refl 4)
theorem NAt.but {g1 : Nat} (h : NAt w g a) (hb : But w.heap.size g1 w w') (hg : g ≠ g1) : NAt w' g a := Row.block h (hb.block g h.size hg)
theorem NAt.other (h : NAt w g a) {p : Addr} (hp : g ≠ p.block) (u : Value) : NAt (w.setCell p u) g a := Row.other h hp u
theorem FAt.size (h : FAt w g m t o s) : g < w.heap.size := Row.size h
theorem FAt.below {B : Nat} (h : FAt w g m t o s) (hb : Below B w w') (hg : g < B) : FAt w' g m t o s := Row.below h hb hg
theorem FAt.on (h : FAt w g m t o s) (hb : Below w.heap.size w w') : FAt w' g m t o s := Row.below h hb h.size
theorem FAt.but {g1 : Nat} (h : FAt w g m t o s) (hb : But w.heap.size g1 w w') (hg : g ≠ g1) : FAt w' g m t o s := Row.block h (hb.block g h.size hg)
theorem FAt.range0 (h : FAt w g m t o s) : w.rangeAt g 0 (nw m) := Row.range h 0 4
theorem FAt.range5 (h : FAt w g m t o s) : w.rangeAt g 5 (nw o) := Row.range h 5 4
theorem NAt.set (h : NAt w g a) (b : Nat) : NAt (w.setCells g 0 (nw b)) g b := by
  have h1 := (((Row.set h 0 (.int .u64 (wd0 b : Nat))).set 1 (.int .u64 (wd1 b : Nat))).set 2 (.int .u64 (wd2 b : Nat))).set 3 (.int .u64 (wd3 b : Nat))
  exact h1
theorem but_cells {B g : Nat} {a : World} : ∀ (vs : List Value) (o : Nat) (w : World), But B g a w → But B g a (w.setCells g o vs)
  | [], o, w, h => h
  | v :: vs, o, w, h => but_cells vs (o + 1) _ (h.self o v)
/-- a number laid in a new block -/
theorem new_num (w : World) (a : Nat) : ∃ w1, w.alloc (.cells (nw a).toArray 24) = w1 ∧ NAt w1 w.heap.size a ∧ Below w.heap.size w w1 ∧ w1.heap.size = w.heap.size + 1 :=
  ⟨_, rfl, Row.new w _ _, below_alloc (Below.refl _ _) _, by simp⟩
theorem bl_on {B : Nat} {u v x : World} (h : Below B u v) (k : Below v.heap.size v x) (hB : B ≤ v.heap.size) : Below B u x := h.trans (k.mono hB)
theorem bl_both {u v x : World} (h : Below u.heap.size u v) (k : Below v.heap.size v x) : Below u.heap.size u x := h.trans (k.mono h.size)
theorem bl_but {B g : Nat} {u v x : World} (h : Below B u v) (k : But v.heap.size g v x) (hB : B ≤ v.heap.size) (hg : B ≤ g) : Below B u x := h.trans (k.below hg hB)
end
section
variable {ops : Array Oper} {rest : List Oper} {op : Oper} {a : Act} {w : World} {Q : Exit → Act → World → Prop}
/-- a store in a plain region's list, told by what it stores -/
theorem gate_st {P : Program} {y : Operand} {t : TypeId} {x : Operand} (_ho : op.op = .store t x y) (h : wpList P ops Q (op :: rest) a w) : wpList P ops Q (op :: rest) a w := h
/-- a whole load -/
theorem ld_num {g o n : Nat} (h : w.rangeAt g o (nw n)) (hgd : op.guard = none) (x : Operand) (ho : op.op = .load 24 x) (hx : a.eval x = .pointer (some ⟨g, o, none⟩))
    (k : wpList Try.prog ops Q rest (a.put op.dst (numV n)) w) : wpList Try.prog ops Q (op :: rest) a w :=
  wpList_load_mid hgd 24 x ho g o hx (nw n) _ h rfl rfl rfl k
/-- a whole store -/
theorem st_num {g n n0 : Nat} (h : NAt w g n0) (hgd : op.guard = none) (x y : Operand) (ho : op.op = .store 24 x y) (hx : a.eval x = .pointer (some ⟨g, 0, none⟩)) (hy : a.eval y = numV n)
    (k : ∀ w', NAt w' g n → But w.heap.size g w w' → wpList Try.prog ops Q rest (a.put op.dst undef) w') : wpList Try.prog ops Q (op :: rest) a w :=
  wpList_store_mid hgd 24 x y ho g 0 (nw n).toArray hx hy h.there rfl (all_oneCell_toArray (nw_one n)) (k _ (h.set n) (but_cells _ _ _ (But.of (Below.refl _ _))))
/-- a number's variable laid, a number boxed -/
theorem al_num (hgd : op.guard = none) (d : Option Tmp) (hd : op.dst = d) (ho : op.op = .alloc 24)
    (k : ∀ g w', g = w.heap.size → NAt w' g 0 → Below w.heap.size w w' → wpList Try.prog ops Q rest (a.put d (.pointer (some ⟨g, 0, none⟩))) w') : wpList Try.prog ops Q (op :: rest) a w :=
  Go.Great.wpList_allocTo hgd d hd (.pointer (some ⟨w.heap.size, 0, none⟩)) (.cells (nw 0).toArray 24) (by unfold execOp; rw [ho]; rfl) (k _ _ rfl (Row.new w _ _) (below_alloc (Below.refl _ _) _))
/-- in a drawn region -/
theorem yields_num {S : World → Prop} (hw : Region.wanted op (yielded ops a.tmps) = true) (x : Operand) (ho : op.op = .load 24 x) {g o n : Nat} (hx : a.eval x = .pointer (some ⟨g, o, none⟩)) (hS : ∀ w, S w → w.rangeAt g o (nw n)) :
    YieldsIf Try.prog ops S op (numV n) a := yieldsIf_load_mid hw 24 x ho g o hx (nw n) _ hS rfl rfl rfl
theorem skip_num {K : Act → World → Prop} {g n n0 : Nat} (h : NAt w g n0) (hw : Region.wanted op (yielded ops a.tmps) = true) (hN : op.dst = none) (x y : Operand) (ho : op.op = .store 24 x y) (hx : a.eval x = .pointer (some ⟨g, 0, none⟩)) (hy : a.eval y = numV n)
    (k : ∀ w', NAt w' g n → But w.heap.size g w w' → K a w') : if Region.wanted op (yielded ops a.tmps) = true then Oper.wp Try.prog op a w K Q else K (a.put none undef) w := by
  rw [if_pos hw]
  refine wp_store_mid 24 x y ho g 0 (nw n).toArray hx hy h.there rfl (all_oneCell_toArray (nw_one n)) ?_
  rw [hN]
  exact k _ (h.set n) (but_cells _ _ _ (But.of (Below.refl _ _)))
end
/-- the returned number lies in a cell of the frame -/
theorem results_nat {fn : Func} {t : Tmp} {tmps : Array Value} {w : World} {g r : Nat} (h : fn.results = #[.cell t 24]) (ht : tmps[t]?.getD undef = .pointer (some ⟨g, 0, none⟩))
    (hr : NAt w g r) : (results fn tmps).run Try.prog w = .ok (numV r) w := by
  obtain ⟨c0, c1, c2, c3⟩ := hr.cell
  rw [numV_def]
  simp [results, h, ht, go_sem, c0, c1, c2, c3]
theorem wd0_even (a : Nat) : wd0 a % 2 = a % 2 := by unfold wd0; omega
theorem b_odd {b : Nat} (h : b = 1) : (((b : Nat) : Int) == 0) = false := by rw [h]; rfl
theorem eqg_num (op : BinOp) (x y : Operand) (a b : Nat) (w : World) : (eqGuard op 24 x y (numV a) (numV b)).run Try.prog w = .ok () w := by
  rw [numV_def, numV_def]
  simp [go_sem]
theorem eqg_num0 (op : BinOp) (x y : Operand) (a : Nat) (w : World) : (eqGuard op 24 x y (numV a) (.agg #[.int .u64 0, .int .u64 0, .int .u64 0, .int .u64 0])).run Try.prog w = .ok () w := eqg_num op x y a 0 w
theorem neq_zero {n : Nat} (h : n < N256) (w : World) : (binOp .neq 24 (numV n) (.agg #[.int .u64 0, .int .u64 0, .int .u64 0, .int .u64 0])).run Try.prog w = .ok (.bool (!decide (n = 0))) w := neq_num h (b := 0) N256_pos w
end Go.Proofs.Ytojlhmmmiebbmaa
namespace Go.Proofs.Ytojlhmmmiebbmaa
open Go.RowKit Go.Proofs.Ytojlhmmmiebbmaa.Arr Go.Proofs.YtojlhmmmiebbmaaW.PrintWords Go.Proofs.YtojlhmmmiebbmaaW.PrintLast Go.Proofs.YtojlhmmmiebbmaaW.PrintMore
set_option linter.unusedVariables false
set_option linter.unusedSimpArgs false
/-- what less answers -/
def lessN (m a : Nat) (D : Bool) : Nat := if D = true ∨ m ≤ a then (a + N256 - m) % N256 else a
theorem cmp_ge {a b : Nat} (h : b ≤ a) : (0 : Int) ≤ cmpI a b := by unfold cmpI; rw [if_neg (by omega)]; split <;> omega
theorem cmp_lt {a b : Nat} (h : ¬ b ≤ a) : cmpI a b < (0 : Int) := by unfold cmpI; rw [if_pos (by omega)]; omega
set_option maxRecDepth 100000 in
set_option maxHeartbeats 8000000 in
/-- (*field.Field).less -/
theorem fless_calls {gf m t o s : Nat} (a : Nat) (D : Bool) (w : World) (hF : FAt w gf m t o s) (ha : a < N256) (hm : m < N256) :
    Calls Try.prog 35 #[.pointer (some ⟨gf, 0, none⟩), numV a, .bool D] w fun e w' => e = .returned (numV (lessN m a D)) ∧ Below w.heap.size w w' := by
  obtain ⟨r, hr⟩ : ∃ r, r = lessN m a D := ⟨_, rfl⟩
  obtain ⟨d, hd⟩ : ∃ d, d = (a + N256 - m) % N256 := ⟨_, rfl⟩
  have HG : Aside0 (gf < w.heap.size) := Aside0.mk hF.size
  have HC := Aside0.mk (fun u => cmp_calls (IsNum.mk ha) (IsNum.mk hm) u)
  have HD := Aside0.mk (fun u => sub_calls (IsNum.mk ha) (IsNum.mk hm) u)
  rw [← hd] at HD
  rw [← hr, numV_def a]
  go_enter Try.func35, Try.ntmps35
  go_upto_region 1 with (fail)
  refine wp_at (w2 := (World.alloc (World.alloc w (.cells (nw a).toArray 24)) (.cells (nw 0).toArray 24))) rfl ?_
  obtain ⟨x_0, e_0, h_0, b_0, s_0⟩ := new_num w a
  obtain ⟨x_1, e_1, h_1, b_1, s_1⟩ := new_num x_0 0
  rw [e_0, e_1]
  rw [s_0] at h_1 s_1
  have HB : Aside0 (Below w.heap.size w x_1) := Aside0.mk (bl_both b_0 b_1)
  have HA : Aside0 (NAt x_1 (w.heap.size) a) := Aside0.mk (h_0.on b_1)
  have HO : Aside0 (NAt x_1 (w.heap.size + 1) 0) := Aside0.mk h_1
  have HS : Aside0 (w.heap.size + 1 + 1 ≤ x_1.heap.size) := Aside0.mk (Nat.le_of_eq s_1.symm)
  have HF := Aside0.mk (hF.on HB.out)
  clear e_0 h_0 b_0 s_0 e_1 h_1 b_1 s_1 hF
  obtain ⟨w1, hw_⟩ : ∃ x, x = x_1 := ⟨_, rfl⟩
  subst hw_
  clear x_0
  by_cases hcase : D = true ∨ m ≤ a
  · have HR : Aside0 (r = d) := Aside0.mk (by rw [hr, hd]; unfold lessN; rw [if_pos hcase])
    clear hd hr
    cases D with
    | true =>
      clear hcase
      refine start_ (n := 10) (S := fun w' => Below w1.heap.size w1 w') (ds := []) #[false, false, false, false, false, false, false, false, false, false] (by kernel_rfl) rfl rfl ((Below.refl _ _).drew) (fun hHeld => ?_)
      refine pure_ (i := 0) (N := some 7) (v := ?_) (a' := ?_) #[true, false, false, false, false, false, false, false, false, false] rfl rfl (by kernel_rfl) (fun _ _ _ h => h) (Or.inl ⟨by rfl, ?_⟩) ?_ ?_
      rotate_left
      · intro w'
        go_simp
        with_reducible rfl
      rotate_left
      · simp only [Act.put, List.setIfInBounds_toArray, List.set_cons_zero, List.set_cons_succ, i64_w, i32_w]
        rfl
      refine pure_ (i := 1) (N := some 8) (v := ?_) (a' := ?_) #[true, true, false, false, false, false, false, false, false, false] rfl rfl (by kernel_rfl) (fun _ _ _ h => h) (Or.inl ⟨by rfl, ?_⟩) ?_ ?_
      rotate_left
      · intro w'
        go_simp
        with_reducible rfl
      rotate_left
      · simp only [Act.put, List.setIfInBounds_toArray, List.set_cons_zero, List.set_cons_succ, i64_w, i32_w]
        rfl
      refine pure_ (i := 2) (N := some 9) (v := undef) (a' := ?_) #[true, true, true, false, false, false, false, false, false, false] rfl rfl (by kernel_rfl) (fun _ _ _ h => h) (Or.inr ⟨by rfl, rfl⟩) ?_ ?_
      rotate_left
      · simp only [Act.put, List.setIfInBounds_toArray, List.set_cons_zero, List.set_cons_succ, i64_w, i32_w]
        rfl
      refine pure_ (i := 3) (N := some 10) (v := undef) (a' := ?_) #[true, true, true, true, false, false, false, false, false, false] rfl rfl (by kernel_rfl) (fun _ _ _ h => h) (Or.inr ⟨by rfl, rfl⟩) ?_ ?_
      rotate_left
      · simp only [Act.put, List.setIfInBounds_toArray, List.set_cons_zero, List.set_cons_succ, i64_w, i32_w]
        rfl
      refine pure_ (i := 4) (N := some 11) (v := undef) (a' := ?_) #[true, true, true, true, true, false, false, false, false, false] rfl rfl (by kernel_rfl) (fun _ _ _ h => h) (Or.inr ⟨by rfl, rfl⟩) ?_ ?_
      rotate_left
      · simp only [Act.put, List.setIfInBounds_toArray, List.set_cons_zero, List.set_cons_succ, i64_w, i32_w]
        rfl
      refine pure_ (i := 5) (N := some 12) (v := undef) (a' := ?_) #[true, true, true, true, true, true, false, false, false, false] rfl rfl (by kernel_rfl) (fun _ _ _ h => h) (Or.inr ⟨by rfl, rfl⟩) ?_ ?_
      rotate_left
      · simp only [Act.put, List.setIfInBounds_toArray, List.set_cons_zero, List.set_cons_succ, i64_w, i32_w]
        rfl
      refine pure_ (i := 6) (N := some 13) (v := undef) (a' := ?_) #[true, true, true, true, true, true, true, false, false, false] rfl rfl (by kernel_rfl) (fun _ _ _ h => h) (Or.inr ⟨by rfl, rfl⟩) ?_ ?_
      rotate_left
      · simp only [Act.put, List.setIfInBounds_toArray, List.set_cons_zero, List.set_cons_succ, i64_w, i32_w]
        rfl
      refine pure_ (i := 7) (N := some 14) (v := undef) (a' := ?_) #[true, true, true, true, true, true, true, true, false, false] rfl rfl (by kernel_rfl) (fun _ _ _ h => h) (Or.inr ⟨by rfl, rfl⟩) ?_ ?_
      rotate_left
      · simp only [Act.put, List.setIfInBounds_toArray, List.set_cons_zero, List.set_cons_succ, i64_w, i32_w]
        rfl
      refine pure_ (i := 8) (N := some 15) (v := undef) (a' := ?_) #[true, true, true, true, true, true, true, true, true, false] rfl rfl (by kernel_rfl) (fun _ _ _ h => h) (Or.inr ⟨by rfl, rfl⟩) ?_ ?_
      rotate_left
      · simp only [Act.put, List.setIfInBounds_toArray, List.set_cons_zero, List.set_cons_succ, i64_w, i32_w]
        rfl
      refine pure_ (i := 9) (N := some 16) (v := ?_) (a' := ?_) #[true, true, true, true, true, true, true, true, true, true] rfl rfl (by kernel_rfl) (fun _ _ _ h => h) (Or.inl ⟨by rfl, ?_⟩) ?_ ?_
      rotate_left
      · intro w'
        go_simp
        with_reducible rfl
      rotate_left
      · simp only [Act.put, List.setIfInBounds_toArray, List.set_cons_zero, List.set_cons_succ, i64_w, i32_w]
        rfl
      refine done_ (by kernel_rfl) ?_
      replace HA := Aside0.mk (HA.out.on hHeld)
      replace HO := Aside0.mk (HO.out.on hHeld)
      replace HF := Aside0.mk (HF.out.on hHeld)
      replace HB := Aside0.mk (bl_on HB.out hHeld HB.out.size)
      replace HS := Aside0.mk (Nat.le_trans HS.out hHeld.size)
      clear hHeld
      generalize w1.drew = w2 at *
      go_wp2
      refine start_ (n := 10) (S := fun w' => Below w2.heap.size w2 w') (ds := [9]) #[false, false, false, false, false, false, false, false, false, false] (by kernel_rfl) rfl rfl ((Below.refl _ _).drew) (fun hHeld => ?_)
      refine pure_ (i := 1) (N := some 19) (v := ?_) (a' := ?_) #[false, true, false, false, false, false, false, false, false, false] rfl rfl (by kernel_rfl) (fun _ _ _ h => h) (Or.inl ⟨by rfl, ?_⟩) ?_ ?_
      rotate_left
      · intro w'
        go_simp
        with_reducible rfl
      rotate_left
      · simp only [Act.put, List.setIfInBounds_toArray, List.set_cons_zero, List.set_cons_succ, i64_w, i32_w]
        rfl
      refine pure_ (i := 2) (N := some 20) (v := ?_) (a' := ?_) #[false, true, true, false, false, false, false, false, false, false] rfl rfl (by kernel_rfl) (fun _ _ _ h => h) (Or.inl ⟨by rfl, ?_⟩) ?_ ?_
      rotate_left
      · intro w'
        go_simp
        with_reducible rfl
      rotate_left
      · simp only [Act.put, List.setIfInBounds_toArray, List.set_cons_zero, List.set_cons_succ, i64_w, i32_w]
        rfl
      refine pure_ (i := 3) (N := some 21) (v := ?_) (a' := ?_) #[false, true, true, true, false, false, false, false, false, false] rfl rfl (by kernel_rfl) (fun _ _ _ h => h) (Or.inl ⟨by rfl, ?_⟩) ?_ ?_
      rotate_left
      · intro w'
        go_simp
        with_reducible rfl
      rotate_left
      · simp only [Act.put, List.setIfInBounds_toArray, List.set_cons_zero, List.set_cons_succ, i64_w, i32_w]
        rfl
      refine take_ (i := 0) (N := some 18) (a' := ?_) #[true, true, true, true, false, false, false, false, false, false] rfl rfl (by kernel_rfl) (fun _ _ _ h => h) (yields_num (g := w.heap.size) (o := 0) (n := a) (by rfl) (.tmp 4) rfl rfl (fun w' hS => (HA.out.below hS HA.out.size).range)) hHeld ?_ ?_
      rotate_left
      · simp only [Act.put, List.setIfInBounds_toArray, List.set_cons_zero, List.set_cons_succ, i64_w, i32_w]
        rfl
      refine take_ (i := 4) (N := some 22) (a' := ?_) #[true, true, true, true, true, false, false, false, false, false] rfl rfl (by kernel_rfl) (fun _ _ _ h => h) (yields_num (g := gf) (o := 0) (n := m) (by rfl) (.tmp 21) rfl rfl (fun w' hS => (HF.out.below hS HF.out.size).range0)) hHeld ?_ ?_
      rotate_left
      · simp only [Act.put, List.setIfInBounds_toArray, List.set_cons_zero, List.set_cons_succ, i64_w, i32_w]
        rfl
      refine one_ (i := 5) (N := some 23) #[true, true, true, true, true, true, false, false, false, false] rfl rfl (by kernel_rfl) (by decide) (fun K hK => ?_)
      refine goes_ Try.func47 (by kernel_rfl) rfl #[numV a, numV m] (by rfl) rfl rfl (by simp only [List.map_toArray, List.map_cons, List.map_nil]; rfl) ?_
      with_reducible refine (HD.out _).mono ?_
      rintro e u2 ⟨rfl, hb2⟩
      refine ⟨_, rfl, ?_⟩
      refine hK.out _ _ (hHeld.trans (hb2.mono hHeld.size)) (fun hHeld => ?_)
      clear hK K
      refine norm_ (a' := ?_) ?_ ?_
      rotate_left
      · show Act.put _ (some 23) _ = _
        simp only [Act.put, List.setIfInBounds_toArray, List.set_cons_zero, List.set_cons_succ, i64_w, i32_w]
        rfl
      refine pure_ (i := 6) (N := some 17) (v := ?_) (a' := ?_) #[true, true, true, true, true, true, true, false, false, false] rfl rfl (by kernel_rfl) (fun _ _ _ h => h) (Or.inl ⟨by rfl, ?_⟩) ?_ ?_
      rotate_left
      · intro w'
        go_simp
        with_reducible rfl
      rotate_left
      · simp only [Act.put, List.setIfInBounds_toArray, List.set_cons_zero, List.set_cons_succ, i64_w, i32_w]
        rfl
      refine pure_ (i := 7) (N := some 24) (v := ?_) (a' := ?_) #[true, true, true, true, true, true, true, true, false, false] rfl rfl (by kernel_rfl) (fun _ _ _ h => h) (Or.inl ⟨by rfl, ?_⟩) ?_ ?_
      rotate_left
      · intro w'
        go_simp
        with_reducible rfl
      rotate_left
      · simp only [Act.put, List.setIfInBounds_toArray, List.set_cons_zero, List.set_cons_succ, i64_w, i32_w]
        rfl
      refine pure_ (i := 8) (N := some 25) (v := ?_) (a' := ?_) #[true, true, true, true, true, true, true, true, true, false] rfl rfl (by kernel_rfl) (fun _ _ _ h => h) (Or.inl ⟨by rfl, ?_⟩) ?_ ?_
      rotate_left
      · intro w'
        go_simp
        with_reducible rfl
      rotate_left
      · simp only [Act.put, List.setIfInBounds_toArray, List.set_cons_zero, List.set_cons_succ, i64_w, i32_w]
        rfl
      refine last_ (i := 9) (N := none) #[true, true, true, true, true, true, true, true, true, true] rfl rfl (by kernel_rfl) (by decide) (fun K hK => ?_)
      refine skip_num (HA.out.below hHeld HA.out.size) (by rfl) rfl (.tmp 4) (.tmp 24) rfl rfl rfl ?_
      intro u3 hA3 hT3
      refine hK.out _ _ ?_
      clear hK K
      refine done_ (by kernel_rfl) ?_
      replace HA := Aside0.mk (HA.out.on hHeld)
      replace HO := Aside0.mk (HO.out.on hHeld)
      replace HF := Aside0.mk (HF.out.on hHeld)
      replace HB := Aside0.mk (bl_on HB.out hHeld HB.out.size)
      replace HS := Aside0.mk (Nat.le_trans HS.out hHeld.size)
      replace HO := Aside0.mk (HO.out.but hT3 (by omega))
      replace HF := Aside0.mk (HF.out.but hT3 (by have := HG.out; omega))
      replace HA := Aside0.mk hA3
      replace HB := Aside0.mk (bl_but HB.out hT3 HB.out.size (by omega))
      replace HS := Aside0.mk (Nat.le_trans HS.out hT3.size)
      clear hA3 hT3
      go_wp2_with (first | ((with_reducible refine gate_dst (N := 26) rfl ?_); refine ld_num (HA.out.range) rfl _ rfl rfl ?_) | ((with_reducible refine gate_st (y := .tmp 26) rfl ?_); refine st_num (HO.out) rfl _ _ rfl rfl rfl ?_; intro u4 hA4 hT4))
      replace HA := Aside0.mk (HA.out.but hT4 (by omega))
      replace HF := Aside0.mk (HF.out.but hT4 (by have := HG.out; omega))
      replace HO := Aside0.mk hA4
      replace HB := Aside0.mk (bl_but HB.out hT4 HB.out.size (by omega))
      replace HS := Aside0.mk (Nat.le_trans HS.out hT4.size)
      clear hA4 hT4
      exact bodyPost_ret (v := numV d) (results_nat rfl rfl HO.out) rfl ⟨by rw [HR.out], HB.out⟩
    | false =>
      have hge := cmp_ge (hcase.resolve_left (by decide))
      generalize cmpI a m = c at *
      clear hcase
      refine start_ (n := 10) (S := fun w' => Below w1.heap.size w1 w') (ds := []) #[false, false, false, false, false, false, false, false, false, false] (by kernel_rfl) rfl rfl ((Below.refl _ _).drew) (fun hHeld => ?_)
      refine pure_ (i := 0) (N := some 7) (v := ?_) (a' := ?_) #[true, false, false, false, false, false, false, false, false, false] rfl rfl (by kernel_rfl) (fun _ _ _ h => h) (Or.inl ⟨by rfl, ?_⟩) ?_ ?_
      rotate_left
      · intro w'
        go_simp
        with_reducible rfl
      rotate_left
      · simp only [Act.put, List.setIfInBounds_toArray, List.set_cons_zero, List.set_cons_succ, i64_w, i32_w]
        rfl
      refine pure_ (i := 1) (N := some 8) (v := ?_) (a' := ?_) #[true, true, false, false, false, false, false, false, false, false] rfl rfl (by kernel_rfl) (fun _ _ _ h => h) (Or.inl ⟨by rfl, ?_⟩) ?_ ?_
      rotate_left
      · intro w'
        go_simp
        with_reducible rfl
      rotate_left
      · simp only [Act.put, List.setIfInBounds_toArray, List.set_cons_zero, List.set_cons_succ, i64_w, i32_w]
        rfl
      refine pure_ (i := 3) (N := some 10) (v := ?_) (a' := ?_) #[true, true, false, true, false, false, false, false, false, false] rfl rfl (by kernel_rfl) (fun _ _ _ h => h) (Or.inl ⟨by rfl, ?_⟩) ?_ ?_
      rotate_left
      · intro w'
        go_simp
        with_reducible rfl
      rotate_left
      · simp only [Act.put, List.setIfInBounds_toArray, List.set_cons_zero, List.set_cons_succ, i64_w, i32_w]
        rfl
      refine pure_ (i := 4) (N := some 11) (v := ?_) (a' := ?_) #[true, true, false, true, true, false, false, false, false, false] rfl rfl (by kernel_rfl) (fun _ _ _ h => h) (Or.inl ⟨by rfl, ?_⟩) ?_ ?_
      rotate_left
      · intro w'
        go_simp
        with_reducible rfl
      rotate_left
      · simp only [Act.put, List.setIfInBounds_toArray, List.set_cons_zero, List.set_cons_succ, i64_w, i32_w]
        rfl
      refine pure_ (i := 5) (N := some 12) (v := ?_) (a' := ?_) #[true, true, false, true, true, true, false, false, false, false] rfl rfl (by kernel_rfl) (fun _ _ _ h => h) (Or.inl ⟨by rfl, ?_⟩) ?_ ?_
      rotate_left
      · intro w'
        go_simp
        with_reducible rfl
      rotate_left
      · simp only [Act.put, List.setIfInBounds_toArray, List.set_cons_zero, List.set_cons_succ, i64_w, i32_w]
        rfl
      refine take_ (i := 2) (N := some 9) (a' := ?_) #[true, true, true, true, true, true, false, false, false, false] rfl rfl (by kernel_rfl) (fun _ _ _ h => h) (yields_num (g := w.heap.size) (o := 0) (n := a) (by rfl) (.tmp 4) rfl rfl (fun w' hS => (HA.out.below hS HA.out.size).range)) hHeld ?_ ?_
      rotate_left
      · simp only [Act.put, List.setIfInBounds_toArray, List.set_cons_zero, List.set_cons_succ, i64_w, i32_w]
        rfl
      refine take_ (i := 6) (N := some 13) (a' := ?_) #[true, true, true, true, true, true, true, false, false, false] rfl rfl (by kernel_rfl) (fun _ _ _ h => h) (yields_num (g := gf) (o := 0) (n := m) (by rfl) (.tmp 12) rfl rfl (fun w' hS => (HF.out.below hS HF.out.size).range0)) hHeld ?_ ?_
      rotate_left
      · simp only [Act.put, List.setIfInBounds_toArray, List.set_cons_zero, List.set_cons_succ, i64_w, i32_w]
        rfl
      refine one_ (i := 7) (N := some 14) #[true, true, true, true, true, true, true, true, false, false] rfl rfl (by kernel_rfl) (by decide) (fun K hK => ?_)
      refine goes_ Try.func30 (by kernel_rfl) rfl #[numV a, numV m] (by rfl) rfl rfl (by simp only [List.map_toArray, List.map_cons, List.map_nil]; rfl) ?_
      with_reducible refine (HC.out _).mono ?_
      rintro e u1 ⟨rfl, hb1⟩
      refine ⟨_, rfl, ?_⟩
      refine hK.out _ _ (hHeld.trans (hb1.mono hHeld.size)) (fun hHeld => ?_)
      clear hK K
      refine norm_ (a' := ?_) ?_ ?_
      rotate_left
      · show Act.put _ (some 14) _ = _
        simp only [Act.put, List.setIfInBounds_toArray, List.set_cons_zero, List.set_cons_succ, i64_w, i32_w]
        rfl
      refine pure_ (i := 8) (N := some 15) (v := ?_) (a' := ?_) #[true, true, true, true, true, true, true, true, true, false] rfl rfl (by kernel_rfl) (fun _ _ _ h => h) (Or.inl ⟨by rfl, ?_⟩) ?_ ?_
      rotate_left
      · intro w'
        go_simp
        with_reducible rfl
      rotate_left
      · simp only [Act.put, List.setIfInBounds_toArray, List.set_cons_zero, List.set_cons_succ, i64_w, i32_w]
        rfl
      refine pure_ (i := 9) (N := some 16) (v := ?_) (a' := ?_) #[true, true, true, true, true, true, true, true, true, true] rfl rfl (by kernel_rfl) (fun _ _ _ h => h) (Or.inl ⟨by rfl, ?_⟩) ?_ ?_
      rotate_left
      · intro w'
        go_simp
        with_reducible rfl
      rotate_left
      · simp only [Act.put, List.setIfInBounds_toArray, List.set_cons_zero, List.set_cons_succ, i64_w, i32_w]
        rfl
      refine done_ (by kernel_rfl) ?_
      replace HA := Aside0.mk (HA.out.on hHeld)
      replace HO := Aside0.mk (HO.out.on hHeld)
      replace HF := Aside0.mk (HF.out.on hHeld)
      replace HB := Aside0.mk (bl_on HB.out hHeld HB.out.size)
      replace HS := Aside0.mk (Nat.le_trans HS.out hHeld.size)
      clear hHeld hb1 hge
      go_wp2
      refine start_ (n := 10) (S := fun w' => Below u1.heap.size u1 w') (ds := [9]) #[false, false, false, false, false, false, false, false, false, false] (by kernel_rfl) rfl rfl ((Below.refl _ _).drew) (fun hHeld => ?_)
      refine pure_ (i := 1) (N := some 19) (v := ?_) (a' := ?_) #[false, true, false, false, false, false, false, false, false, false] rfl rfl (by kernel_rfl) (fun _ _ _ h => h) (Or.inl ⟨by rfl, ?_⟩) ?_ ?_
      rotate_left
      · intro w'
        go_simp
        with_reducible rfl
      rotate_left
      · simp only [Act.put, List.setIfInBounds_toArray, List.set_cons_zero, List.set_cons_succ, i64_w, i32_w]
        rfl
      refine pure_ (i := 2) (N := some 20) (v := ?_) (a' := ?_) #[false, true, true, false, false, false, false, false, false, false] rfl rfl (by kernel_rfl) (fun _ _ _ h => h) (Or.inl ⟨by rfl, ?_⟩) ?_ ?_
      rotate_left
      · intro w'
        go_simp
        with_reducible rfl
      rotate_left
      · simp only [Act.put, List.setIfInBounds_toArray, List.set_cons_zero, List.set_cons_succ, i64_w, i32_w]
        rfl
      refine pure_ (i := 3) (N := some 21) (v := ?_) (a' := ?_) #[false, true, true, true, false, false, false, false, false, false] rfl rfl (by kernel_rfl) (fun _ _ _ h => h) (Or.inl ⟨by rfl, ?_⟩) ?_ ?_
      rotate_left
      · intro w'
        go_simp
        with_reducible rfl
      rotate_left
      · simp only [Act.put, List.setIfInBounds_toArray, List.set_cons_zero, List.set_cons_succ, i64_w, i32_w]
        rfl
      refine take_ (i := 0) (N := some 18) (a' := ?_) #[true, true, true, true, false, false, false, false, false, false] rfl rfl (by kernel_rfl) (fun _ _ _ h => h) (yields_num (g := w.heap.size) (o := 0) (n := a) (by rfl) (.tmp 4) rfl rfl (fun w' hS => (HA.out.below hS HA.out.size).range)) hHeld ?_ ?_
      rotate_left
      · simp only [Act.put, List.setIfInBounds_toArray, List.set_cons_zero, List.set_cons_succ, i64_w, i32_w]
        rfl
      refine take_ (i := 4) (N := some 22) (a' := ?_) #[true, true, true, true, true, false, false, false, false, false] rfl rfl (by kernel_rfl) (fun _ _ _ h => h) (yields_num (g := gf) (o := 0) (n := m) (by rfl) (.tmp 21) rfl rfl (fun w' hS => (HF.out.below hS HF.out.size).range0)) hHeld ?_ ?_
      rotate_left
      · simp only [Act.put, List.setIfInBounds_toArray, List.set_cons_zero, List.set_cons_succ, i64_w, i32_w]
        rfl
      refine one_ (i := 5) (N := some 23) #[true, true, true, true, true, true, false, false, false, false] rfl rfl (by kernel_rfl) (by decide) (fun K hK => ?_)
      refine goes_ Try.func47 (by kernel_rfl) rfl #[numV a, numV m] (by rfl) rfl rfl (by simp only [List.map_toArray, List.map_cons, List.map_nil]; rfl) ?_
      with_reducible refine (HD.out _).mono ?_
      rintro e u2 ⟨rfl, hb2⟩
      refine ⟨_, rfl, ?_⟩
      refine hK.out _ _ (hHeld.trans (hb2.mono hHeld.size)) (fun hHeld => ?_)
      clear hK K
      refine norm_ (a' := ?_) ?_ ?_
      rotate_left
      · show Act.put _ (some 23) _ = _
        simp only [Act.put, List.setIfInBounds_toArray, List.set_cons_zero, List.set_cons_succ, i64_w, i32_w]
        rfl
      refine pure_ (i := 6) (N := some 17) (v := ?_) (a' := ?_) #[true, true, true, true, true, true, true, false, false, false] rfl rfl (by kernel_rfl) (fun _ _ _ h => h) (Or.inl ⟨by rfl, ?_⟩) ?_ ?_
      rotate_left
      · intro w'
        go_simp
        with_reducible rfl
      rotate_left
      · simp only [Act.put, List.setIfInBounds_toArray, List.set_cons_zero, List.set_cons_succ, i64_w, i32_w]
        rfl
      refine pure_ (i := 7) (N := some 24) (v := ?_) (a' := ?_) #[true, true, true, true, true, true, true, true, false, false] rfl rfl (by kernel_rfl) (fun _ _ _ h => h) (Or.inl ⟨by rfl, ?_⟩) ?_ ?_
      rotate_left
      · intro w'
        go_simp
        with_reducible rfl
      rotate_left
      · simp only [Act.put, List.setIfInBounds_toArray, List.set_cons_zero, List.set_cons_succ, i64_w, i32_w]
        rfl
      refine pure_ (i := 8) (N := some 25) (v := ?_) (a' := ?_) #[true, true, true, true, true, true, true, true, true, false] rfl rfl (by kernel_rfl) (fun _ _ _ h => h) (Or.inl ⟨by rfl, ?_⟩) ?_ ?_
      rotate_left
      · intro w'
        go_simp
        with_reducible rfl
      rotate_left
      · simp only [Act.put, List.setIfInBounds_toArray, List.set_cons_zero, List.set_cons_succ, i64_w, i32_w]
        rfl
      refine last_ (i := 9) (N := none) #[true, true, true, true, true, true, true, true, true, true] rfl rfl (by kernel_rfl) (by decide) (fun K hK => ?_)
      refine skip_num (HA.out.below hHeld HA.out.size) (by rfl) rfl (.tmp 4) (.tmp 24) rfl rfl rfl ?_
      intro u3 hA3 hT3
      refine hK.out _ _ ?_
      clear hK K
      refine done_ (by kernel_rfl) ?_
      replace HA := Aside0.mk (HA.out.on hHeld)
      replace HO := Aside0.mk (HO.out.on hHeld)
      replace HF := Aside0.mk (HF.out.on hHeld)
      replace HB := Aside0.mk (bl_on HB.out hHeld HB.out.size)
      replace HS := Aside0.mk (Nat.le_trans HS.out hHeld.size)
      replace HO := Aside0.mk (HO.out.but hT3 (by omega))
      replace HF := Aside0.mk (HF.out.but hT3 (by have := HG.out; omega))
      replace HA := Aside0.mk hA3
      replace HB := Aside0.mk (bl_but HB.out hT3 HB.out.size (by omega))
      replace HS := Aside0.mk (Nat.le_trans HS.out hT3.size)
      clear hA3 hT3
      go_wp2_with (first | ((with_reducible refine gate_dst (N := 26) rfl ?_); refine ld_num (HA.out.range) rfl _ rfl rfl ?_) | ((with_reducible refine gate_st (y := .tmp 26) rfl ?_); refine st_num (HO.out) rfl _ _ rfl rfl rfl ?_; intro u4 hA4 hT4))
      replace HA := Aside0.mk (HA.out.but hT4 (by omega))
      replace HF := Aside0.mk (HF.out.but hT4 (by have := HG.out; omega))
      replace HO := Aside0.mk hA4
      replace HB := Aside0.mk (bl_but HB.out hT4 HB.out.size (by omega))
      replace HS := Aside0.mk (Nat.le_trans HS.out hT4.size)
      clear hA4 hT4
      exact bodyPost_ret (v := numV d) (results_nat rfl rfl HO.out) rfl ⟨by rw [HR.out], HB.out⟩
  · have HR : Aside0 (r = a) := Aside0.mk (by rw [hr]; unfold lessN; rw [if_neg hcase])
    obtain rfl : D = false := by cases D; · rfl
                                 · exact absurd (Or.inl rfl) hcase
    have hlt := cmp_lt (fun h => hcase (Or.inr h))
    generalize cmpI a m = c at *
    have hlt : decide ((0 : Int) ≤ c) = false := decide_eq_false (Int.not_le.2 hlt)
    clear hcase hd hr
    refine start_ (n := 10) (S := fun w' => Below w1.heap.size w1 w') (ds := []) #[false, false, false, false, false, false, false, false, false, false] (by kernel_rfl) rfl rfl ((Below.refl _ _).drew) (fun hHeld => ?_)
    refine pure_ (i := 0) (N := some 7) (v := ?_) (a' := ?_) #[true, false, false, false, false, false, false, false, false, false] rfl rfl (by kernel_rfl) (fun _ _ _ h => h) (Or.inl ⟨by rfl, ?_⟩) ?_ ?_
    rotate_left
    · intro w'
      go_simp
      with_reducible rfl
    rotate_left
    · simp only [Act.put, List.setIfInBounds_toArray, List.set_cons_zero, List.set_cons_succ, i64_w, i32_w]
      rfl
    refine pure_ (i := 1) (N := some 8) (v := ?_) (a' := ?_) #[true, true, false, false, false, false, false, false, false, false] rfl rfl (by kernel_rfl) (fun _ _ _ h => h) (Or.inl ⟨by rfl, ?_⟩) ?_ ?_
    rotate_left
    · intro w'
      go_simp
      with_reducible rfl
    rotate_left
    · simp only [Act.put, List.setIfInBounds_toArray, List.set_cons_zero, List.set_cons_succ, i64_w, i32_w]
      rfl
    refine pure_ (i := 3) (N := some 10) (v := ?_) (a' := ?_) #[true, true, false, true, false, false, false, false, false, false] rfl rfl (by kernel_rfl) (fun _ _ _ h => h) (Or.inl ⟨by rfl, ?_⟩) ?_ ?_
    rotate_left
    · intro w'
      go_simp
      with_reducible rfl
    rotate_left
    · simp only [Act.put, List.setIfInBounds_toArray, List.set_cons_zero, List.set_cons_succ, i64_w, i32_w]
      rfl
    refine pure_ (i := 4) (N := some 11) (v := ?_) (a' := ?_) #[true, true, false, true, true, false, false, false, false, false] rfl rfl (by kernel_rfl) (fun _ _ _ h => h) (Or.inl ⟨by rfl, ?_⟩) ?_ ?_
    rotate_left
    · intro w'
      go_simp
      with_reducible rfl
    rotate_left
    · simp only [Act.put, List.setIfInBounds_toArray, List.set_cons_zero, List.set_cons_succ, i64_w, i32_w]
      rfl
    refine pure_ (i := 5) (N := some 12) (v := ?_) (a' := ?_) #[true, true, false, true, true, true, false, false, false, false] rfl rfl (by kernel_rfl) (fun _ _ _ h => h) (Or.inl ⟨by rfl, ?_⟩) ?_ ?_
    rotate_left
    · intro w'
      go_simp
      with_reducible rfl
    rotate_left
    · simp only [Act.put, List.setIfInBounds_toArray, List.set_cons_zero, List.set_cons_succ, i64_w, i32_w]
      rfl
    refine take_ (i := 2) (N := some 9) (a' := ?_) #[true, true, true, true, true, true, false, false, false, false] rfl rfl (by kernel_rfl) (fun _ _ _ h => h) (yields_num (g := w.heap.size) (o := 0) (n := a) (by rfl) (.tmp 4) rfl rfl (fun w' hS => (HA.out.below hS HA.out.size).range)) hHeld ?_ ?_
    rotate_left
    · simp only [Act.put, List.setIfInBounds_toArray, List.set_cons_zero, List.set_cons_succ, i64_w, i32_w]
      rfl
    refine take_ (i := 6) (N := some 13) (a' := ?_) #[true, true, true, true, true, true, true, false, false, false] rfl rfl (by kernel_rfl) (fun _ _ _ h => h) (yields_num (g := gf) (o := 0) (n := m) (by rfl) (.tmp 12) rfl rfl (fun w' hS => (HF.out.below hS HF.out.size).range0)) hHeld ?_ ?_
    rotate_left
    · simp only [Act.put, List.setIfInBounds_toArray, List.set_cons_zero, List.set_cons_succ, i64_w, i32_w]
      rfl
    refine one_ (i := 7) (N := some 14) #[true, true, true, true, true, true, true, true, false, false] rfl rfl (by kernel_rfl) (by decide) (fun K hK => ?_)
    refine goes_ Try.func30 (by kernel_rfl) rfl #[numV a, numV m] (by rfl) rfl rfl (by simp only [List.map_toArray, List.map_cons, List.map_nil]; rfl) ?_
    with_reducible refine (HC.out _).mono ?_
    rintro e u1 ⟨rfl, hb1⟩
    refine ⟨_, rfl, ?_⟩
    refine hK.out _ _ (hHeld.trans (hb1.mono hHeld.size)) (fun hHeld => ?_)
    clear hK K
    refine norm_ (a' := ?_) ?_ ?_
    rotate_left
    · show Act.put _ (some 14) _ = _
      simp only [Act.put, List.setIfInBounds_toArray, List.set_cons_zero, List.set_cons_succ, i64_w, i32_w]
      rfl
    refine pure_ (i := 8) (N := some 15) (v := ?_) (a' := ?_) #[true, true, true, true, true, true, true, true, true, false] rfl rfl (by kernel_rfl) (fun _ _ _ h => h) (Or.inl ⟨by rfl, ?_⟩) ?_ ?_
    rotate_left
    · intro w'
      go_simp
      with_reducible rfl
    rotate_left
    · simp only [Act.put, List.setIfInBounds_toArray, List.set_cons_zero, List.set_cons_succ, i64_w, i32_w]
      rfl
    refine pure_ (i := 9) (N := some 16) (v := ?_) (a' := ?_) #[true, true, true, true, true, true, true, true, true, true] rfl rfl (by kernel_rfl) (fun _ _ _ h => h) (Or.inl ⟨by rfl, ?_⟩) ?_ ?_
    rotate_left
    · intro w'
      go_simp
      with_reducible rfl
    rotate_left
    · simp only [Act.put, List.setIfInBounds_toArray, List.set_cons_zero, List.set_cons_succ, i64_w, i32_w]
      rfl
    refine done_ (by kernel_rfl) ?_
    replace HA := Aside0.mk (HA.out.on hHeld)
    replace HO := Aside0.mk (HO.out.on hHeld)
    replace HF := Aside0.mk (HF.out.on hHeld)
    replace HB := Aside0.mk (bl_on HB.out hHeld HB.out.size)
    replace HS := Aside0.mk (Nat.le_trans HS.out hHeld.size)
    clear hHeld hb1 hlt
    go_wp2_with (first | ((with_reducible refine gate_dst (N := 26) rfl ?_); refine ld_num (HA.out.range) rfl _ rfl rfl ?_) | ((with_reducible refine gate_st (y := .tmp 26) rfl ?_); refine st_num (HO.out) rfl _ _ rfl rfl rfl ?_; intro u4 hA4 hT4))
    replace HA := Aside0.mk (HA.out.but hT4 (by omega))
    replace HF := Aside0.mk (HF.out.but hT4 (by have := HG.out; omega))
    replace HO := Aside0.mk hA4
    replace HB := Aside0.mk (bl_but HB.out hT4 HB.out.size (by omega))
    replace HS := Aside0.mk (Nat.le_trans HS.out hT4.size)
    clear hA4 hT4
    exact bodyPost_ret (v := numV a) (results_nat rfl rfl HO.out) rfl ⟨by rw [HR.out], HB.out⟩
end Go.Proofs.Ytojlhmmmiebbmaa
