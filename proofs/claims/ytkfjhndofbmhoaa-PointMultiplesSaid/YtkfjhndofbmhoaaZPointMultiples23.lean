/- What the proof of PointMultiples is made of, part 23. -/
import Derived.Test.YtkfjhndofbmhoaaZPointMultiples22
import Derived.Test.YtkfjhndofbmhoaaZPointMultiplesh
namespace Go.Proofs.Ytkfjhndofbmhoaa
open Go.RowKit Go.Proofs.Ytkfjhndofbmhoaa.Arr Go.Proofs.YtkfjhndofbmhoaaW.PrintWords Go.Proofs.YtkfjhndofbmhoaaW.PrintLast Go.Proofs.YtkfjhndofbmhoaaW.PrintMore
set_option linter.unusedVariables false
set_option linter.unusedSimpArgs false
def isInv (m a x : Nat) : Prop := x < m ∧ a * x % m = 1
open Classical in
noncomputable def invO (m a : Nat) : Option Nat := if h : ∃ x, isInv m a x then some (Classical.choose h) else none
noncomputable def invV (m a : Nat) : Nat := (invO m a).getD 0
noncomputable def invE (m a : Nat) : Value := match invO m a with | some _ => .nilIface | none => .iface 38 (.int .i64 4)
theorem inv_unique {m a x y : Nat} (hx : isInv m a x) (hy : isInv m a y) : x = y := by
 have h1 : y * (a * x % m) % m = y * 1 % m := by rw [hx.2]
 have h2 : x * (a * y % m) % m = x * 1 % m := by rw [hy.2]
 rw [Nat.mul_mod_mod, Nat.mul_one, Nat.mod_eq_of_lt hy.1] at h1
 rw [Nat.mul_mod_mod, Nat.mul_one, Nat.mod_eq_of_lt hx.1] at h2
 rw [← h2, Nat.mul_left_comm x a y, Nat.mul_comm x y, ← Nat.mul_left_comm y a x]
 exact h1
theorem invO_some {m a x : Nat} (hx : isInv m a x) : invO m a = some x := by
 unfold invO
 rw [dif_pos ⟨x, hx⟩]
 exact congrArg some (inv_unique (Classical.choose_spec (⟨x, hx⟩ : ∃ x, isInv m a x)) hx)
theorem invO_none {m a : Nat} (h1 : 1 < m) (h : Nat.gcd a m ≠ 1) : invO m a = none := by
 unfold invO
 rw [dif_neg]
 rintro ⟨x, hx⟩
 apply h
 have h2 := Nat.div_add_mod (a * x) m
 rw [hx.2] at h2
 have h3 : Nat.gcd a m ∣ m * (a * x / m) + 1 := by rw [h2]; exact Nat.dvd_trans (Nat.gcd_dvd_left a m) (Nat.dvd_mul_right a x)
 exact Nat.dvd_one.1 ((Nat.dvd_add_right (Nat.dvd_trans (Nat.gcd_dvd_right a m) (Nat.dvd_mul_right m _))).1 h3)
/-- what Inv keeps -/
structure Inv4 (m a un ub vn vb : Nat) : Prop where
 lu : un < N256
 lv : vn < N256
 lub : ub < m
 lvb : vb < m
 uo : un = 0 ∨ un % 2 = 1
 vo : vn % 2 = 1
 eu : un % m = a * ub % m
 ev : vn % m = a * vb % m
 gg : Nat.gcd un vn = Nat.gcd a m
theorem Inv4.swap {m a un ub vn vb : Nat} (h : Inv4 m a un ub vn vb) (h0 : un ≠ 0) : Inv4 m a vn vb un ub :=
 ⟨h.lv, h.lu, h.lvb, h.lub, .inr h.vo, h.uo.resolve_left h0, h.ev, h.eu, by rw [Nat.gcd_comm]; exact h.gg⟩
theorem gcd_odd (n q k : Nat) (hq : q % 2 = 1) : Nat.gcd (n * 2 ^ k) q = Nat.gcd n q := by
 have h2 : Nat.Coprime 2 q := by
  show Nat.gcd 2 q = 1
  rw [Nat.gcd_rec, hq]
  exact Nat.gcd_one_left 2
 exact Nat.Coprime.gcd_mul_right_cancel n (Nat.Coprime.pow_left k h2)
theorem mod_cancel {m x y q : Nat} (h0 : 0 < m) (h : (x + q) % m = (y + q) % m) : x % m = y % m := by
 have e : ∀ z, z % m = ((z + q) % m + (m - q % m)) % m := fun z => by
  have h1 := Nat.div_add_mod q m
  have h2 := Nat.mod_lt q h0
  rw [Nat.mod_add_mod, Nat.add_assoc, show q + (m - q % m) = m * (q / m + 1) by (rw [Nat.mul_add, Nat.mul_one]; omega), Nat.add_mul_mod_self_left]
 rw [e x, e y, h]
theorem sub_mod_eq (m a p pb q qb : Nat) (hpq : q ≤ p) (hqb : qb < m) (ep : p % m = a * pb % m) (eq : q % m = a * qb % m) : (p - q) % m = a * ((pb + m - qb) % m) % m := by
 apply mod_cancel (q := q) (by omega)
 rw [Nat.sub_add_cancel hpq]
 have e1 : (a * ((pb + m - qb) % m) % m + q) % m = (a * (pb + m - qb) % m + q % m) % m := by rw [Nat.mul_mod_mod, Nat.add_mod_mod]
 have e2 : (a * (pb + m - qb) % m + q % m) % m = a * pb % m := by
  rw [eq, ← Nat.add_mod, ← Nat.mul_add, show pb + m - qb + qb = pb + m by omega, Nat.mul_add, Nat.add_mul_mod_self_right]
 rw [Nat.mod_add_mod] at e1
 rw [ep, e1, e2]
theorem gcd_sub_self (p q : Nat) (h : q ≤ p) : Nat.gcd (p - q) q = Nat.gcd p q := by
 have e : p = p - q + q := by omega
 conv => rhs; rw [e]
 simp
/-- one round -/
theorem Inv4.step {m a p pb q qb : Nat} (hm : m % 2 = 1) (h : Inv4 m a p pb q qb) (h0 : p ≠ 0) (hpq : q ≤ p) :
  Inv4 m a (odF m (p - q) ((pb + m - qb) % m)).1 (odF m (p - q) ((pb + m - qb) % m)).2 q qb ∧ (odF m (p - q) ((pb + m - qb) % m)).1 + q < p + q := by
 have hb : (pb + m - qb) % m < m := Nat.mod_lt _ (by have := h.lub; omega)
 obtain ⟨⟨h1, ⟨k, hk⟩, h2, h3⟩, h4, h5⟩ := odF_all m (p - q) ((pb + m - qb) % m) hm hb
 have hs := h3 a (sub_mod_eq m a p pb q qb hpq h.lvb h.eu h.ev)
 generalize (odF m (p - q) ((pb + m - qb) % m)).1 = n at *
 generalize (odF m (p - q) ((pb + m - qb) % m)).2 = b at *
 have hv := h.vo
 have hl := h.lu
 refine ⟨⟨by omega, h.lv, h2, h.lvb, h5, h.vo, hs, h.ev, ?_⟩, by omega⟩
 rw [← gcd_odd n q k h.vo, ← hk, gcd_sub_self p q hpq]
 exact h.gg
theorem Inv4.start {m a : Nat} (hm : m % 2 = 1) (h1 : 1 < m) (hN : m < N256) : Inv4 m a (odF m (a % m) 1).1 (odF m (a % m) 1).2 m 0 := by
 obtain ⟨⟨h1', ⟨k, hk⟩, h2, h3⟩, h4, h5⟩ := odF_all m (a % m) 1 hm h1
 have hx := Nat.mod_lt a (show 0 < m by omega)
 have hs := h3 a (by rw [Nat.mod_mod, Nat.mul_one])
 generalize (odF m (a % m) 1).1 = n at *
 generalize (odF m (a % m) 1).2 = b at *
 refine ⟨by omega, hN, h2, by omega, h5, hm, hs, by rw [Nat.mod_self, Nat.mul_zero, Nat.zero_mod], ?_⟩
 rw [← gcd_odd n m k hm, ← hk, Nat.gcd_comm, Nat.gcd_comm a m]
 rw [Nat.gcd_comm m (a % m)]
 exact (Nat.gcd_rec m a).symm
theorem Inv4.found {m a ub vb : Nat} (h1 : 1 < m) (h : Inv4 m a 0 ub 1 vb) : invO m a = some vb :=
 invO_some ⟨h.lvb, by rw [← h.ev, Nat.mod_eq_of_lt h1]⟩
theorem Inv4.lost {m a ub vn vb : Nat} (h1 : 1 < m) (h : Inv4 m a 0 ub vn vb) (hv : vn ≠ 1) : invO m a = none :=
 invO_none h1 (by rw [← h.gg, Nat.gcd_zero_left]; exact hv)
theorem neq_one {n : Nat} (h : n < N256) (w : World) : (binOp .neq 24 (numV n) (.agg #[.int .u64 1, .int .u64 0, .int .u64 0, .int .u64 0])).run Try.prog w = .ok (.bool (!decide (n = 1))) w := neq_num h (b := 1) (by unfold N256; omega) w
theorem eqg_num1 (op : BinOp) (x y : Operand) (a : Nat) (w : World) : (eqGuard op 24 x y (numV a) (.agg #[.int .u64 1, .int .u64 0, .int .u64 0, .int .u64 0])).run Try.prog w = .ok () w := eqg_num op x y a 1 w
attribute [local go_sem high] eqg_num eqg_num0 eqg_num1
/-- a number in a cell of the frame, and a value -/
theorem results_two {fn : Func} {t u : Tmp} {tmps : Array Value} {w : World} {g r : Nat} {v : Value} (h : fn.results = #[.cell t 24, .tmp u]) (ht : tmps[t]?.getD undef = .pointer (some ⟨g, 0, none⟩)) (hu : tmps[u]?.getD undef = v)
  (hr : NAt w g r) : (results fn tmps).run Try.prog w = .ok (.tuple #[numV r, v]) w := by
 obtain ⟨c0, c1, c2, c3⟩ := hr.cell
 rw [numV_def]
 simp [results, h, ht, hu, go_sem, c0, c1, c2, c3]
set_option maxRecDepth 100000 in
set_option maxHeartbeats 8000000 in
/-- (*field.Field).Inv -/
theorem finv_calls {gf m t o s : Nat} (a : Nat) (w : World) (hF : FAt w gf m t o s) (hm : m < N256) (hm1 : m % 2 = 1) (h1 : 1 < m) (ha : a < N256) :
  Calls Try.prog 58 #[.pointer (some ⟨gf, 0, none⟩), numV a] w fun e w' => e = .returned (.tuple #[numV (invV m a), invE m a]) ∧ Below w.heap.size w w' := by
 have HG : Aside0 (gf < w.heap.size) := Aside0.mk hF.size
 have HCM : Aside0 (m < N256 ∧ m % 2 = 1 ∧ 1 < m) := Aside0.mk ⟨hm, hm1, h1⟩
 have h0 : 0 < m := by omega
 have HI := Aside0.mk (fun (u : World) (h : FAt u gf m t o s) => fin_calls a u h hm h0 ha)
 have hx : a % m < N256 := Nat.lt_trans (Nat.mod_lt a h0) hm
 have HO := Aside0.mk (fun (u : World) (h : FAt u gf m t o s) => fodd_calls (a % m) 1 u h hm hm1 hx h1)
 have HST := Aside0.mk (Inv4.start (a := a) hm1 h1 hm)
 generalize (odF m (a % m) 1).1 = n1 at *
 generalize (odF m (a % m) 1).2 = b1 at *
 generalize a % m = x at *
 rw [numV_def x] at HI
 rw [numV_def a]
 clear hm hm1 h1 ha h0 hx
 go_enter Try.func58, Try.ntmps58
 go_upto_region 1 with (fail)
 refine wp_at (w2 := (World.alloc (World.alloc w (.cells (nw a).toArray 24)) (.cells (nw 0).toArray 24))) rfl ?_
 obtain ⟨x_0, e_0, h_0, b_0, s_0⟩ := new_num w a
 obtain ⟨x_1, e_1, h_1, b_1, s_1⟩ := new_num x_0 0
 rw [e_0, e_1]
 rw [s_0] at h_1 s_1
 have HB : Aside0 (Below w.heap.size w x_1) := Aside0.mk (bl_both b_0 b_1)
 have HA : Aside0 (NAt x_1 (w.heap.size) a) := Aside0.mk (h_0.on b_1)
 have HR : Aside0 (NAt x_1 (w.heap.size + 1) 0) := Aside0.mk h_1
 have HS : Aside0 (w.heap.size + 1 + 1 ≤ x_1.heap.size) := Aside0.mk (Nat.le_of_eq s_1.symm)
 have HF := Aside0.mk (hF.on HB.out)
 clear e_0 h_0 b_0 s_0 e_1 h_1 b_1 s_1 hF
 obtain ⟨w1, hw_⟩ : ∃ x, x = x_1 := ⟨_, rfl⟩
 subst hw_
 clear x_0
 refine start_ (n := 17) (S := fun w' => Below w1.heap.size w1 w') (ds := [16]) (bs 17 0) (by kernel_rfl) rfl rfl ((Below.refl _ _).drew) (fun hHeld => ?_)
 refine pu_ 0 10 (bs 17 1) ?_ ?_ ?_ ?_ ?_
 rotate_left
 ·intro w'
  go_simp
  with_reducible rfl
 rotate_left
 ·simp only [aS, i64_w, i32_w]
  rfl
 refine pu_ 1 11 (bs 17 3) ?_ ?_ ?_ ?_ ?_
 rotate_left
 ·intro w'
  go_simp
  with_reducible rfl
 rotate_left
 ·simp only [aS, i64_w, i32_w]
  rfl
 refine pu_ 4 14 (bs 17 19) ?_ ?_ ?_ ?_ ?_
 rotate_left
 ·intro w'
  go_simp
  with_reducible rfl
 rotate_left
 ·simp only [aS, i64_w, i32_w]
  rfl
 refine pu_ 7 17 (bs 17 147) ?_ ?_ ?_ ?_ ?_
 rotate_left
 ·intro w'
  go_simp
  with_reducible rfl
 rotate_left
 ·simp only [aS, i64_w, i32_w]
  rfl
 refine pu_ 8 18 (bs 17 403) ?_ ?_ ?_ ?_ ?_
 rotate_left
 ·intro w'
  go_simp
  with_reducible rfl
 rotate_left
 ·simp only [aS, i64_w, i32_w]
  rfl
 refine pu_ 9 19 (bs 17 915) ?_ ?_ ?_ ?_ ?_
 rotate_left
 ·intro w'
  go_simp
  with_reducible rfl
 rotate_left
 ·simp only [aS, i64_w, i32_w]
  rfl
 refine pu_ 11 21 (bs 17 2963) ?_ ?_ ?_ ?_ ?_
 rotate_left
 ·intro w'
  go_simp
  with_reducible rfl
 rotate_left
 ·simp only [aS, i64_w, i32_w]
  rfl
 refine take_ (i := 2) (N := some 12) (a' := ?_) (bs 17 2967) rfl rfl (by kernel_rfl) (fun _ _ _ h => h) (yields_num (g := w.heap.size) (o := 0) (n := a) (by rfl) (.tmp 3) rfl rfl (fun w' hS => (HA.out.below hS HA.out.size).range)) hHeld ?_ ?_
 rotate_left
 ·simp only [aS, i64_w, i32_w]
  rfl
 refine take_ (i := 10) (N := some 20) (a' := ?_) (bs 17 3991) rfl rfl (by kernel_rfl) (fun _ _ _ h => h) (yields_numx (g := gf) (o := 0) (n := m) (by rfl) (.tmp 19) rfl rfl (fun w' hS => (HF.out.below hS HF.out.size).range0)) hHeld ?_ ?_
 rotate_left
 ·simp only [aS, i64_w, i32_w]
  rfl
 refine pu_ 12 22 (bs 17 8087) ?_ ?_ ?_ ?_ ?_
 rotate_left
 ·intro w'
  go_simp
  with_reducible rfl
 rotate_left
 ·simp only [aS, i64_w, i32_w]
  rfl
 refine join_ (σ := Nat × Nat) 2 (bs 17 32767) (fun s => [(6, .pointer (some ⟨s.1, 0, none⟩)), (7, .pointer (some ⟨s.2, 0, none⟩)), (13, .agg #[.int .u64 (wd0 x : Nat), .int .u64 (wd1 x : Nat), .int .u64 (wd2 x : Nat), .int .u64 (wd3 x : Nat)]), (15, .agg #[.int .u64 (wd0 x : Nat), .int .u64 (wd1 x : Nat), .int .u64 (wd2 x : Nat), .int .u64 (wd3 x : Nat), .int .u64 1, .int .u64 0, .int .u64 0, .int .u64 0]), (16, pairV n1 b1)]) (fun s w' => Below w1.heap.size w1 w' ∧ PAt w' (s.1) 0 0 ∧ w1.heap.size ≤ s.1 ∧ PAt w' (s.2) 0 0 ∧ w1.heap.size ≤ s.2 ∧ s.1 ≠ s.2) ?_ ?_
 rotate_left
 ·intro hCont
  refine three_ (i := 3) (j := 13) (k := 14) (Ni := some 13) (Nj := some 6) (Nk := some 7) (bs 17 8095) (bs 17 16279) (bs 17 24471) rfl rfl rfl rfl rfl rfl (by kernel_rfl) (by decide) (by decide) (by decide) (fun K hK => ?_) (fun K hK => ?_) (fun K hK => ?_)
  ·skip
   refine gs_ Try.func71 #[.pointer (some ⟨gf, 0, none⟩), numV a] rfl ?_
   with_reducible refine (HI.out _ (HF.out.below hHeld HF.out.size)).mono ?_
   rintro e u1 ⟨rfl, hb_u1⟩
   refine ⟨_, rfl, ?_⟩
   refine hK.out _ _ (bl_on hHeld hb_u1 hHeld.size) (fun hHeld => ?_)
   clear hK K
   refine nm_ (some 13) ?_
   refine pu_ 5 15 (bs 17 8127) ?_ ?_ ?_ ?_ ?_
   rotate_left
   ·intro w'
    go_simp
    with_reducible rfl
   rotate_left
   ·simp only [aS, i64_w, i32_w]
    rfl
   refine three_ (i := 6) (j := 13) (k := 14) (Ni := some 16) (Nj := some 6) (Nk := some 7) (bs 17 8191) (bs 17 16319) (bs 17 24511) rfl rfl rfl rfl rfl rfl (by kernel_rfl) (by decide) (by decide) (by decide) (fun K hK => ?_) (fun K hK => ?_) (fun K hK => ?_)
   ·skip
    refine gs_ Try.func75 #[.pointer (some ⟨gf, 0, none⟩), pairV x 1] rfl ?_
    with_reducible refine (HO.out _ (HF.out.below hHeld HF.out.size)).mono ?_
    rintro e u2 ⟨rfl, hb_u2⟩
    refine ⟨_, rfl, ?_⟩
    refine hK.out _ _ (bl_on hHeld hb_u2 hHeld.size) (fun hHeld => ?_)
    clear hK K
    refine nm_ (some 16) ?_
    refine tw_ 13 14 (some 6) (some 7) (bs 17 16383) (bs 17 24575) rfl rfl (fun K hK => ?_) (fun K hK => ?_)
    ·skip
     refine value_ (w1 := ?_) (v := ?_) (by rfl) rfl ?_ ?_
     rotate_left 2
     ·go_simp
      constructor
      ·rfl
      ·rfl
     have hzgU : PAt (World.alloc u2 (.cells (nw 0 ++ nw 0).toArray 94)) (u2.heap.size) 0 0 := by have h_ := Row.new u2 94 (nw 0 ++ nw 0); first | exact h_ | (simp only [alloc_sz] at h_; exact h_) | omega
     have hsgU : w1.heap.size ≤ u2.heap.size := by have h_ := hHeld.size; first | exact h_ | (simp only [alloc_sz] at h_; exact h_) | omega
     refine hK.out _ _ (below_alloc hHeld _) (fun hHeld => ?_)
     clear hK K
     refine nm_ (some 6) ?_
     refine on1_ 14 (some 7) (bs 17 32767) rfl fun K hK => ?_
     refine value_ (w1 := ?_) (v := ?_) (by rfl) rfl ?_ ?_
     rotate_left 2
     ·go_simp
      constructor
      ·rfl
      ·rfl
     have hzgV : PAt (World.alloc (World.alloc u2 (.cells (nw 0 ++ nw 0).toArray 94)) (.cells (nw 0 ++ nw 0).toArray 94)) (u2.heap.size + 1) 0 0 := by have h_ := Row.new (World.alloc u2 (.cells (nw 0 ++ nw 0).toArray 94)) 94 (nw 0 ++ nw 0); first | exact h_ | (simp only [alloc_sz] at h_; exact h_) | omega
     have hsgV : w1.heap.size ≤ u2.heap.size + 1 := by have h_ := hHeld.size; first | exact h_ | (simp only [alloc_sz] at h_; exact h_) | omega
     have hngUgV : u2.heap.size < u2.heap.size + 1 := by have h_ := hzgU.size; first | exact h_ | (simp only [alloc_sz] at h_; exact h_) | omega
     have hzogU := hzgU.on (below_alloc (Below.refl _ (World.alloc u2 (.cells (nw 0 ++ nw 0).toArray 94))) (.cells (nw 0 ++ nw 0).toArray 94))
     clear hzgU
     have hzgU := hzogU
     clear hzogU
     refine hK.out _ _ (below_alloc hHeld _) (fun hHeld => ?_)
     clear hK K
     refine nm_ (some 7) ?_
     exact norm_ (by simp only [putAll, aS]) (hCont (u2.heap.size, u2.heap.size + 1) _ ⟨hHeld, hzgU, hsgU, hzgV, hsgV, Nat.ne_of_lt hngUgV⟩)
    ·skip
     refine value_ (w1 := ?_) (v := ?_) (by rfl) rfl ?_ ?_
     rotate_left 2
     ·go_simp
      constructor
      ·rfl
      ·rfl
     have hzgV : PAt (World.alloc u2 (.cells (nw 0 ++ nw 0).toArray 94)) (u2.heap.size) 0 0 := by have h_ := Row.new u2 94 (nw 0 ++ nw 0); first | exact h_ | (simp only [alloc_sz] at h_; exact h_) | omega
     have hsgV : w1.heap.size ≤ u2.heap.size := by have h_ := hHeld.size; first | exact h_ | (simp only [alloc_sz] at h_; exact h_) | omega
     refine hK.out _ _ (below_alloc hHeld _) (fun hHeld => ?_)
     clear hK K
     refine nm_ (some 7) ?_
     refine on1_ 13 (some 6) (bs 17 32767) rfl fun K hK => ?_
     refine value_ (w1 := ?_) (v := ?_) (by rfl) rfl ?_ ?_
     rotate_left 2
     ·go_simp
      constructor
      ·rfl
      ·rfl
     have hzgU : PAt (World.alloc (World.alloc u2 (.cells (nw 0 ++ nw 0).toArray 94)) (.cells (nw 0 ++ nw 0).toArray 94)) (u2.heap.size + 1) 0 0 := by have h_ := Row.new (World.alloc u2 (.cells (nw 0 ++ nw 0).toArray 94)) 94 (nw 0 ++ nw 0); first | exact h_ | (simp only [alloc_sz] at h_; exact h_) | omega
     have hsgU : w1.heap.size ≤ u2.heap.size + 1 := by have h_ := hHeld.size; first | exact h_ | (simp only [alloc_sz] at h_; exact h_) | omega
     have hngVgU : u2.heap.size < u2.heap.size + 1 := by have h_ := hzgV.size; first | exact h_ | (simp only [alloc_sz] at h_; exact h_) | omega
     have hzogV := hzgV.on (below_alloc (Below.refl _ (World.alloc u2 (.cells (nw 0 ++ nw 0).toArray 94))) (.cells (nw 0 ++ nw 0).toArray 94))
     clear hzgV
     have hzgV := hzogV
     clear hzogV
     refine hK.out _ _ (below_alloc hHeld _) (fun hHeld => ?_)
     clear hK K
     refine nm_ (some 6) ?_
     exact norm_ (by simp only [putAll, aS]) (hCont (u2.heap.size + 1, u2.heap.size) _ ⟨hHeld, hzgU, hsgU, hzgV, hsgV, Nat.ne_of_gt hngVgU⟩)
   ·skip
    refine value_ (w1 := ?_) (v := ?_) (by rfl) rfl ?_ ?_
    rotate_left 2
    ·go_simp
     constructor
     ·rfl
     ·rfl
    have hzgU : PAt (World.alloc u1 (.cells (nw 0 ++ nw 0).toArray 94)) (u1.heap.size) 0 0 := by have h_ := Row.new u1 94 (nw 0 ++ nw 0); first | exact h_ | (simp only [alloc_sz] at h_; exact h_) | omega
    have hsgU : w1.heap.size ≤ u1.heap.size := by have h_ := hHeld.size; first | exact h_ | (simp only [alloc_sz] at h_; exact h_) | omega
    refine hK.out _ _ (below_alloc hHeld _) (fun hHeld => ?_)
    clear hK K
    refine nm_ (some 6) ?_
    refine tw_ 6 14 (some 16) (some 7) (bs 17 16383) (bs 17 32703) rfl rfl (fun K hK => ?_) (fun K hK => ?_)
    ·skip
     refine gs_ Try.func75 #[.pointer (some ⟨gf, 0, none⟩), pairV x 1] rfl ?_
     with_reducible refine (HO.out _ (HF.out.below hHeld HF.out.size)).mono ?_
     rintro e u2 ⟨rfl, hb_u2⟩
     refine ⟨_, rfl, ?_⟩
     have hzogU := hzgU.on hb_u2
     clear hzgU
     have hzgU := hzogU
     clear hzogU
     refine hK.out _ _ (bl_on hHeld hb_u2 hHeld.size) (fun hHeld => ?_)
     clear hK K
     refine nm_ (some 16) ?_
     refine on1_ 14 (some 7) (bs 17 32767) rfl fun K hK => ?_
     refine value_ (w1 := ?_) (v := ?_) (by rfl) rfl ?_ ?_
     rotate_left 2
     ·go_simp
      constructor
      ·rfl
      ·rfl
     have hzgV : PAt (World.alloc u2 (.cells (nw 0 ++ nw 0).toArray 94)) (u2.heap.size) 0 0 := by have h_ := Row.new u2 94 (nw 0 ++ nw 0); first | exact h_ | (simp only [alloc_sz] at h_; exact h_) | omega
     have hsgV : w1.heap.size ≤ u2.heap.size := by have h_ := hHeld.size; first | exact h_ | (simp only [alloc_sz] at h_; exact h_) | omega
     have hngUgV : u1.heap.size < u2.heap.size := by have h_ := hzgU.size; first | exact h_ | (simp only [alloc_sz] at h_; exact h_) | omega
     have hzogU := hzgU.on (below_alloc (Below.refl _ u2) (.cells (nw 0 ++ nw 0).toArray 94))
     clear hzgU
     have hzgU := hzogU
     clear hzogU
     refine hK.out _ _ (below_alloc hHeld _) (fun hHeld => ?_)
     clear hK K
     refine nm_ (some 7) ?_
     exact norm_ (by simp only [putAll, aS]) (hCont (u1.heap.size, u2.heap.size) _ ⟨hHeld, hzgU, hsgU, hzgV, hsgV, Nat.ne_of_lt hngUgV⟩)
    ·skip
     refine value_ (w1 := ?_) (v := ?_) (by rfl) rfl ?_ ?_
     rotate_left 2
     ·go_simp
      constructor
      ·rfl
      ·rfl
     have hzgV : PAt (World.alloc (World.alloc u1 (.cells (nw 0 ++ nw 0).toArray 94)) (.cells (nw 0 ++ nw 0).toArray 94)) (u1.heap.size + 1) 0 0 := by have h_ := Row.new (World.alloc u1 (.cells (nw 0 ++ nw 0).toArray 94)) 94 (nw 0 ++ nw 0); first | exact h_ | (simp only [alloc_sz] at h_; exact h_) | omega
     have hsgV : w1.heap.size ≤ u1.heap.size + 1 := by have h_ := hHeld.size; first | exact h_ | (simp only [alloc_sz] at h_; exact h_) | omega
     have hngUgV : u1.heap.size < u1.heap.size + 1 := by have h_ := hzgU.size; first | exact h_ | (simp only [alloc_sz] at h_; exact h_) | omega
     have hzogU := hzgU.on (below_alloc (Below.refl _ (World.alloc u1 (.cells (nw 0 ++ nw 0).toArray 94))) (.cells (nw 0 ++ nw 0).toArray 94))
     clear hzgU
     have hzgU := hzogU
     clear hzogU
     refine hK.out _ _ (below_alloc hHeld _) (fun hHeld => ?_)
     clear hK K
     refine nm_ (some 7) ?_
     refine on1_ 6 (some 16) (bs 17 32767) rfl fun K hK => ?_
     refine gs_ Try.func75 #[.pointer (some ⟨gf, 0, none⟩), pairV x 1] rfl ?_
     with_reducible refine (HO.out _ (HF.out.below hHeld HF.out.size)).mono ?_
     rintro e u2 ⟨rfl, hb_u2⟩
     refine ⟨_, rfl, ?_⟩
     have hzogU := hzgU.on hb_u2
     clear hzgU
     have hzgU := hzogU
     clear hzogU
     have hzogV := hzgV.on hb_u2
     clear hzgV
     have hzgV := hzogV
     clear hzogV
     refine hK.out _ _ (bl_on hHeld hb_u2 hHeld.size) (fun hHeld => ?_)
     clear hK K
     refine nm_ (some 16) ?_
     exact norm_ (by simp only [putAll, aS]) (hCont (u1.heap.size, u1.heap.size + 1) _ ⟨hHeld, hzgU, hsgU, hzgV, hsgV, Nat.ne_of_lt hngUgV⟩)
   ·skip
    refine value_ (w1 := ?_) (v := ?_) (by rfl) rfl ?_ ?_
    rotate_left 2
    ·go_simp
     constructor
     ·rfl
     ·rfl
    have hzgV : PAt (World.alloc u1 (.cells (nw 0 ++ nw 0).toArray 94)) (u1.heap.size) 0 0 := by have h_ := Row.new u1 94 (nw 0 ++ nw 0); first | exact h_ | (simp only [alloc_sz] at h_; exact h_) | omega
    have hsgV : w1.heap.size ≤ u1.heap.size := by have h_ := hHeld.size; first | exact h_ | (simp only [alloc_sz] at h_; exact h_) | omega
    refine hK.out _ _ (below_alloc hHeld _) (fun hHeld => ?_)
    clear hK K
    refine nm_ (some 7) ?_
    refine tw_ 6 13 (some 16) (some 6) (bs 17 24575) (bs 17 32703) rfl rfl (fun K hK => ?_) (fun K hK => ?_)
    ·skip
     refine gs_ Try.func75 #[.pointer (some ⟨gf, 0, none⟩), pairV x 1] rfl ?_
     with_reducible refine (HO.out _ (HF.out.below hHeld HF.out.size)).mono ?_
     rintro e u2 ⟨rfl, hb_u2⟩
     refine ⟨_, rfl, ?_⟩
     have hzogV := hzgV.on hb_u2
     clear hzgV
     have hzgV := hzogV
     clear hzogV
     refine hK.out _ _ (bl_on hHeld hb_u2 hHeld.size) (fun hHeld => ?_)
     clear hK K
     refine nm_ (some 16) ?_
     refine on1_ 13 (some 6) (bs 17 32767) rfl fun K hK => ?_
     refine value_ (w1 := ?_) (v := ?_) (by rfl) rfl ?_ ?_
     rotate_left 2
     ·go_simp
      constructor
      ·rfl
      ·rfl
     have hzgU : PAt (World.alloc u2 (.cells (nw 0 ++ nw 0).toArray 94)) (u2.heap.size) 0 0 := by have h_ := Row.new u2 94 (nw 0 ++ nw 0); first | exact h_ | (simp only [alloc_sz] at h_; exact h_) | omega
     have hsgU : w1.heap.size ≤ u2.heap.size := by have h_ := hHeld.size; first | exact h_ | (simp only [alloc_sz] at h_; exact h_) | omega
     have hngVgU : u1.heap.size < u2.heap.size := by have h_ := hzgV.size; first | exact h_ | (simp only [alloc_sz] at h_; exact h_) | omega
     have hzogV := hzgV.on (below_alloc (Below.refl _ u2) (.cells (nw 0 ++ nw 0).toArray 94))
     clear hzgV
     have hzgV := hzogV
     clear hzogV
     refine hK.out _ _ (below_alloc hHeld _) (fun hHeld => ?_)
     clear hK K
     refine nm_ (some 6) ?_
     exact norm_ (by simp only [putAll, aS]) (hCont (u2.heap.size, u1.heap.size) _ ⟨hHeld, hzgU, hsgU, hzgV, hsgV, Nat.ne_of_gt hngVgU⟩)
    ·skip
     refine value_ (w1 := ?_) (v := ?_) (by rfl) rfl ?_ ?_
     rotate_left 2
     ·go_simp
      constructor
      ·rfl
      ·rfl
     have hzgU : PAt (World.alloc (World.alloc u1 (.cells (nw 0 ++ nw 0).toArray 94)) (.cells (nw 0 ++ nw 0).toArray 94)) (u1.heap.size + 1) 0 0 := by have h_ := Row.new (World.alloc u1 (.cells (nw 0 ++ nw 0).toArray 94)) 94 (nw 0 ++ nw 0); first | exact h_ | (simp only [alloc_sz] at h_; exact h_) | omega
     have hsgU : w1.heap.size ≤ u1.heap.size + 1 := by have h_ := hHeld.size; first | exact h_ | (simp only [alloc_sz] at h_; exact h_) | omega
     have hngVgU : u1.heap.size < u1.heap.size + 1 := by have h_ := hzgV.size; first | exact h_ | (simp only [alloc_sz] at h_; exact h_) | omega
     have hzogV := hzgV.on (below_alloc (Below.refl _ (World.alloc u1 (.cells (nw 0 ++ nw 0).toArray 94))) (.cells (nw 0 ++ nw 0).toArray 94))
     clear hzgV
     have hzgV := hzogV
     clear hzogV
     refine hK.out _ _ (below_alloc hHeld _) (fun hHeld => ?_)
     clear hK K
     refine nm_ (some 6) ?_
     refine on1_ 6 (some 16) (bs 17 32767) rfl fun K hK => ?_
     refine gs_ Try.func75 #[.pointer (some ⟨gf, 0, none⟩), pairV x 1] rfl ?_
     with_reducible refine (HO.out _ (HF.out.below hHeld HF.out.size)).mono ?_
     rintro e u2 ⟨rfl, hb_u2⟩
     refine ⟨_, rfl, ?_⟩
     have hzogV := hzgV.on hb_u2
     clear hzgV
     have hzgV := hzogV
     clear hzogV
     have hzogU := hzgU.on hb_u2
     clear hzgU
     have hzgU := hzogU
     clear hzogU
     refine hK.out _ _ (bl_on hHeld hb_u2 hHeld.size) (fun hHeld => ?_)
     clear hK K
     refine nm_ (some 16) ?_
     exact norm_ (by simp only [putAll, aS]) (hCont (u1.heap.size + 1, u1.heap.size) _ ⟨hHeld, hzgU, hsgU, hzgV, hsgV, Nat.ne_of_gt hngVgU⟩)
  ·skip
   refine value_ (w1 := ?_) (v := ?_) (by rfl) rfl ?_ ?_
   rotate_left 2
   ·go_simp
    constructor
    ·rfl
    ·rfl
   have hzgU : PAt (World.alloc (World.drew w1) (.cells (nw 0 ++ nw 0).toArray 94)) (w1.heap.size) 0 0 := by have h_ := Row.new (World.drew w1) 94 (nw 0 ++ nw 0); first | exact h_ | (simp only [alloc_sz] at h_; exact h_) | omega
   have hsgU : w1.heap.size ≤ w1.heap.size := by have h_ := hHeld.size; first | exact h_ | (simp only [alloc_sz] at h_; exact h_) | omega
   refine hK.out _ _ (below_alloc hHeld _) (fun hHeld => ?_)
   clear hK K
   refine nm_ (some 6) ?_
   refine tw_ 3 14 (some 13) (some 7) (bs 17 16287) (bs 17 32663) rfl rfl (fun K hK => ?_) (fun K hK => ?_)
   ·skip
    refine gs_ Try.func71 #[.pointer (some ⟨gf, 0, none⟩), numV a] rfl ?_
    with_reducible refine (HI.out _ (HF.out.below hHeld HF.out.size)).mono ?_
    rintro e u1 ⟨rfl, hb_u1⟩
    refine ⟨_, rfl, ?_⟩
    have hzogU := hzgU.on hb_u1
    clear hzgU
    have hzgU := hzogU
    clear hzogU
    refine hK.out _ _ (bl_on hHeld hb_u1 hHeld.size) (fun hHeld => ?_)
    clear hK K
    refine nm_ (some 13) ?_
    refine pu_ 5 15 (bs 17 16319) ?_ ?_ ?_ ?_ ?_
    rotate_left
    ·intro w'
     go_simp
     with_reducible rfl
    rotate_left
    ·simp only [aS, i64_w, i32_w]
     rfl
    refine tw_ 6 14 (some 16) (some 7) (bs 17 16383) (bs 17 32703) rfl rfl (fun K hK => ?_) (fun K hK => ?_)
    ·skip
     refine gs_ Try.func75 #[.pointer (some ⟨gf, 0, none⟩), pairV x 1] rfl ?_
     with_reducible refine (HO.out _ (HF.out.below hHeld HF.out.size)).mono ?_
     rintro e u2 ⟨rfl, hb_u2⟩
     refine ⟨_, rfl, ?_⟩
     have hzogU := hzgU.on hb_u2
     clear hzgU
     have hzgU := hzogU
     clear hzogU
     refine hK.out _ _ (bl_on hHeld hb_u2 hHeld.size) (fun hHeld => ?_)
     clear hK K
     refine nm_ (some 16) ?_
     refine on1_ 14 (some 7) (bs 17 32767) rfl fun K hK => ?_
     refine value_ (w1 := ?_) (v := ?_) (by rfl) rfl ?_ ?_
     rotate_left 2
     ·go_simp
      constructor
      ·rfl
      ·rfl
     have hzgV : PAt (World.alloc u2 (.cells (nw 0 ++ nw 0).toArray 94)) (u2.heap.size) 0 0 := by have h_ := Row.new u2 94 (nw 0 ++ nw 0); first | exact h_ | (simp only [alloc_sz] at h_; exact h_) | omega
     have hsgV : w1.heap.size ≤ u2.heap.size := by have h_ := hHeld.size; first | exact h_ | (simp only [alloc_sz] at h_; exact h_) | omega
     have hngUgV : w1.heap.size < u2.heap.size := by have h_ := hzgU.size; first | exact h_ | (simp only [alloc_sz] at h_; exact h_) | omega
     have hzogU := hzgU.on (below_alloc (Below.refl _ u2) (.cells (nw 0 ++ nw 0).toArray 94))
     clear hzgU
     have hzgU := hzogU
     clear hzogU
     refine hK.out _ _ (below_alloc hHeld _) (fun hHeld => ?_)
     clear hK K
     refine nm_ (some 7) ?_
     exact norm_ (by simp only [putAll, aS]) (hCont (w1.heap.size, u2.heap.size) _ ⟨hHeld, hzgU, hsgU, hzgV, hsgV, Nat.ne_of_lt hngUgV⟩)
    ·skip
     refine value_ (w1 := ?_) (v := ?_) (by rfl) rfl ?_ ?_
     rotate_left 2
     ·go_simp
      constructor
      ·rfl
      ·rfl
     have hzgV : PAt (World.alloc u1 (.cells (nw 0 ++ nw 0).toArray 94)) (u1.heap.size) 0 0 := by have h_ := Row.new u1 94 (nw 0 ++ nw 0); first | exact h_ | (simp only [alloc_sz] at h_; exact h_) | omega
     have hsgV : w1.heap.size ≤ u1.heap.size := by have h_ := hHeld.size; first | exact h_ | (simp only [alloc_sz] at h_; exact h_) | omega
     have hngUgV : w1.heap.size < u1.heap.size := by have h_ := hzgU.size; first | exact h_ | (simp only [alloc_sz] at h_; exact h_) | omega
     have hzogU := hzgU.on (below_alloc (Below.refl _ u1) (.cells (nw 0 ++ nw 0).toArray 94))
     clear hzgU
     have hzgU := hzogU
     clear hzogU
     refine hK.out _ _ (below_alloc hHeld _) (fun hHeld => ?_)
     clear hK K
     refine nm_ (some 7) ?_
     refine on1_ 6 (some 16) (bs 17 32767) rfl fun K hK => ?_
     refine gs_ Try.func75 #[.pointer (some ⟨gf, 0, none⟩), pairV x 1] rfl ?_
     with_reducible refine (HO.out _ (HF.out.below hHeld HF.out.size)).mono ?_
     rintro e u2 ⟨rfl, hb_u2⟩
     refine ⟨_, rfl, ?_⟩
     have hzogU := hzgU.on hb_u2
     clear hzgU
     have hzgU := hzogU
     clear hzogU
     have hzogV := hzgV.on hb_u2
     clear hzgV
     have hzgV := hzogV
     clear hzogV
     refine hK.out _ _ (bl_on hHeld hb_u2 hHeld.size) (fun hHeld => ?_)
     clear hK K
     refine nm_ (some 16) ?_
     exact norm_ (by simp only [putAll, aS]) (hCont (w1.heap.size, u1.heap.size) _ ⟨hHeld, hzgU, hsgU, hzgV, hsgV, Nat.ne_of_lt hngUgV⟩)
   ·skip
    refine value_ (w1 := ?_) (v := ?_) (by rfl) rfl ?_ ?_
    rotate_left 2
    ·go_simp
     constructor
     ·rfl
     ·rfl
    have hzgV : PAt (World.alloc (World.alloc (World.drew w1) (.cells (nw 0 ++ nw 0).toArray 94)) (.cells (nw 0 ++ nw 0).toArray 94)) (w1.heap.size + 1) 0 0 := by have h_ := Row.new (World.alloc (World.drew w1) (.cells (nw 0 ++ nw 0).toArray 94)) 94 (nw 0 ++ nw 0); first | exact h_ | (simp only [alloc_sz] at h_; exact h_) | omega
    have hsgV : w1.heap.size ≤ w1.heap.size + 1 := by have h_ := hHeld.size; first | exact h_ | (simp only [alloc_sz] at h_; exact h_) | omega
    have hngUgV : w1.heap.size < w1.heap.size + 1 := by have h_ := hzgU.size; first | exact h_ | (simp only [alloc_sz] at h_; exact h_) | omega
    have hzogU := hzgU.on (below_alloc (Below.refl _ (World.alloc (World.drew w1) (.cells (nw 0 ++ nw 0).toArray 94))) (.cells (nw 0 ++ nw 0).toArray 94))
    clear hzgU
    have hzgU := hzogU
    clear hzogU
    refine hK.out _ _ (below_alloc hHeld _) (fun hHeld => ?_)
    clear hK K
    refine nm_ (some 7) ?_
    refine on1_ 3 (some 13) (bs 17 32671) rfl fun K hK => ?_
    refine gs_ Try.func71 #[.pointer (some ⟨gf, 0, none⟩), numV a] rfl ?_
    with_reducible refine (HI.out _ (HF.out.below hHeld HF.out.size)).mono ?_
    rintro e u1 ⟨rfl, hb_u1⟩
    refine ⟨_, rfl, ?_⟩
    have hzogU := hzgU.on hb_u1
    clear hzgU
    have hzgU := hzogU
    clear hzogU
    have hzogV := hzgV.on hb_u1
    clear hzgV
    have hzgV := hzogV
    clear hzogV
    refine hK.out _ _ (bl_on hHeld hb_u1 hHeld.size) (fun hHeld => ?_)
    clear hK K
    refine nm_ (some 13) ?_
    refine pu_ 5 15 (bs 17 32703) ?_ ?_ ?_ ?_ ?_
    rotate_left
    ·intro w'
     go_simp
     with_reducible rfl
    rotate_left
    ·simp only [aS, i64_w, i32_w]
     rfl
    refine on1_ 6 (some 16) (bs 17 32767) rfl fun K hK => ?_
    refine gs_ Try.func75 #[.pointer (some ⟨gf, 0, none⟩), pairV x 1] rfl ?_
    with_reducible refine (HO.out _ (HF.out.below hHeld HF.out.size)).mono ?_
    rintro e u2 ⟨rfl, hb_u2⟩
    refine ⟨_, rfl, ?_⟩
    have hzogU := hzgU.on hb_u2
    clear hzgU
    have hzgU := hzogU
    clear hzogU
    have hzogV := hzgV.on hb_u2
    clear hzgV
    have hzgV := hzogV
    clear hzogV
    refine hK.out _ _ (bl_on hHeld hb_u2 hHeld.size) (fun hHeld => ?_)
    clear hK K
    refine nm_ (some 16) ?_
    exact norm_ (by simp only [putAll, aS]) (hCont (w1.heap.size, w1.heap.size + 1) _ ⟨hHeld, hzgU, hsgU, hzgV, hsgV, Nat.ne_of_lt hngUgV⟩)
  ·skip
   refine value_ (w1 := ?_) (v := ?_) (by rfl) rfl ?_ ?_
   rotate_left 2
   ·go_simp
    constructor
    ·rfl
    ·rfl
   have hzgV : PAt (World.alloc (World.drew w1) (.cells (nw 0 ++ nw 0).toArray 94)) (w1.heap.size) 0 0 := by have h_ := Row.new (World.drew w1) 94 (nw 0 ++ nw 0); first | exact h_ | (simp only [alloc_sz] at h_; exact h_) | omega
   have hsgV : w1.heap.size ≤ w1.heap.size := by have h_ := hHeld.size; first | exact h_ | (simp only [alloc_sz] at h_; exact h_) | omega
   refine hK.out _ _ (below_alloc hHeld _) (fun hHeld => ?_)
   clear hK K
   refine nm_ (some 7) ?_
   refine tw_ 3 13 (some 13) (some 6) (bs 17 24479) (bs 17 32663) rfl rfl (fun K hK => ?_) (fun K hK => ?_)
   ·skip
    refine gs_ Try.func71 #[.pointer (some ⟨gf, 0, none⟩), numV a] rfl ?_
    with_reducible refine (HI.out _ (HF.out.below hHeld HF.out.size)).mono ?_
    rintro e u1 ⟨rfl, hb_u1⟩
    refine ⟨_, rfl, ?_⟩
    have hzogV := hzgV.on hb_u1
    clear hzgV
    have hzgV := hzogV
    clear hzogV
    refine hK.out _ _ (bl_on hHeld hb_u1 hHeld.size) (fun hHeld => ?_)
    clear hK K
    refine nm_ (some 13) ?_
    refine pu_ 5 15 (bs 17 24511) ?_ ?_ ?_ ?_ ?_
    rotate_left
    ·intro w'
     go_simp
     with_reducible rfl
    rotate_left
    ·simp only [aS, i64_w, i32_w]
     rfl
    refine tw_ 6 13 (some 16) (some 6) (bs 17 24575) (bs 17 32703) rfl rfl (fun K hK => ?_) (fun K hK => ?_)
    ·skip
     refine gs_ Try.func75 #[.pointer (some ⟨gf, 0, none⟩), pairV x 1] rfl ?_
     with_reducible refine (HO.out _ (HF.out.below hHeld HF.out.size)).mono ?_
     rintro e u2 ⟨rfl, hb_u2⟩
     refine ⟨_, rfl, ?_⟩
     have hzogV := hzgV.on hb_u2
     clear hzgV
     have hzgV := hzogV
     clear hzogV
     refine hK.out _ _ (bl_on hHeld hb_u2 hHeld.size) (fun hHeld => ?_)
     clear hK K
     refine nm_ (some 16) ?_
     refine on1_ 13 (some 6) (bs 17 32767) rfl fun K hK => ?_
     refine value_ (w1 := ?_) (v := ?_) (by rfl) rfl ?_ ?_
     rotate_left 2
     ·go_simp
      constructor
      ·rfl
      ·rfl
     have hzgU : PAt (World.alloc u2 (.cells (nw 0 ++ nw 0).toArray 94)) (u2.heap.size) 0 0 := by have h_ := Row.new u2 94 (nw 0 ++ nw 0); first | exact h_ | (simp only [alloc_sz] at h_; exact h_) | omega
     have hsgU : w1.heap.size ≤ u2.heap.size := by have h_ := hHeld.size; first | exact h_ | (simp only [alloc_sz] at h_; exact h_) | omega
     have hngVgU : w1.heap.size < u2.heap.size := by have h_ := hzgV.size; first | exact h_ | (simp only [alloc_sz] at h_; exact h_) | omega
     have hzogV := hzgV.on (below_alloc (Below.refl _ u2) (.cells (nw 0 ++ nw 0).toArray 94))
     clear hzgV
     have hzgV := hzogV
     clear hzogV
     refine hK.out _ _ (below_alloc hHeld _) (fun hHeld => ?_)
     clear hK K
     refine nm_ (some 6) ?_
     exact norm_ (by simp only [putAll, aS]) (hCont (u2.heap.size, w1.heap.size) _ ⟨hHeld, hzgU, hsgU, hzgV, hsgV, Nat.ne_of_gt hngVgU⟩)
    ·skip
     refine value_ (w1 := ?_) (v := ?_) (by rfl) rfl ?_ ?_
     rotate_left 2
     ·go_simp
      constructor
      ·rfl
      ·rfl
     have hzgU : PAt (World.alloc u1 (.cells (nw 0 ++ nw 0).toArray 94)) (u1.heap.size) 0 0 := by have h_ := Row.new u1 94 (nw 0 ++ nw 0); first | exact h_ | (simp only [alloc_sz] at h_; exact h_) | omega
     have hsgU : w1.heap.size ≤ u1.heap.size := by have h_ := hHeld.size; first | exact h_ | (simp only [alloc_sz] at h_; exact h_) | omega
     have hngVgU : w1.heap.size < u1.heap.size := by have h_ := hzgV.size; first | exact h_ | (simp only [alloc_sz] at h_; exact h_) | omega
     have hzogV := hzgV.on (below_alloc (Below.refl _ u1) (.cells (nw 0 ++ nw 0).toArray 94))
     clear hzgV
     have hzgV := hzogV
     clear hzogV
     refine hK.out _ _ (below_alloc hHeld _) (fun hHeld => ?_)
     clear hK K
     refine nm_ (some 6) ?_
     refine on1_ 6 (some 16) (bs 17 32767) rfl fun K hK => ?_
     refine gs_ Try.func75 #[.pointer (some ⟨gf, 0, none⟩), pairV x 1] rfl ?_
     with_reducible refine (HO.out _ (HF.out.below hHeld HF.out.size)).mono ?_
     rintro e u2 ⟨rfl, hb_u2⟩
     refine ⟨_, rfl, ?_⟩
     have hzogV := hzgV.on hb_u2
     clear hzgV
     have hzgV := hzogV
     clear hzogV
     have hzogU := hzgU.on hb_u2
     clear hzgU
     have hzgU := hzogU
     clear hzogU
     refine hK.out _ _ (bl_on hHeld hb_u2 hHeld.size) (fun hHeld => ?_)
     clear hK K
     refine nm_ (some 16) ?_
     exact norm_ (by simp only [putAll, aS]) (hCont (u1.heap.size, w1.heap.size) _ ⟨hHeld, hzgU, hsgU, hzgV, hsgV, Nat.ne_of_gt hngVgU⟩)
   ·skip
    refine value_ (w1 := ?_) (v := ?_) (by rfl) rfl ?_ ?_
    rotate_left 2
    ·go_simp
     constructor
     ·rfl
     ·rfl
    have hzgU : PAt (World.alloc (World.alloc (World.drew w1) (.cells (nw 0 ++ nw 0).toArray 94)) (.cells (nw 0 ++ nw 0).toArray 94)) (w1.heap.size + 1) 0 0 := by have h_ := Row.new (World.alloc (World.drew w1) (.cells (nw 0 ++ nw 0).toArray 94)) 94 (nw 0 ++ nw 0); first | exact h_ | (simp only [alloc_sz] at h_; exact h_) | omega
    have hsgU : w1.heap.size ≤ w1.heap.size + 1 := by have h_ := hHeld.size; first | exact h_ | (simp only [alloc_sz] at h_; exact h_) | omega
    have hngVgU : w1.heap.size < w1.heap.size + 1 := by have h_ := hzgV.size; first | exact h_ | (simp only [alloc_sz] at h_; exact h_) | omega
    have hzogV := hzgV.on (below_alloc (Below.refl _ (World.alloc (World.drew w1) (.cells (nw 0 ++ nw 0).toArray 94))) (.cells (nw 0 ++ nw 0).toArray 94))
    clear hzgV
    have hzgV := hzogV
    clear hzogV
    refine hK.out _ _ (below_alloc hHeld _) (fun hHeld => ?_)
    clear hK K
    refine nm_ (some 6) ?_
    refine on1_ 3 (some 13) (bs 17 32671) rfl fun K hK => ?_
    refine gs_ Try.func71 #[.pointer (some ⟨gf, 0, none⟩), numV a] rfl ?_
    with_reducible refine (HI.out _ (HF.out.below hHeld HF.out.size)).mono ?_
    rintro e u1 ⟨rfl, hb_u1⟩
    refine ⟨_, rfl, ?_⟩
    have hzogV := hzgV.on hb_u1
    clear hzgV
    have hzgV := hzogV
    clear hzogV
    have hzogU := hzgU.on hb_u1
    clear hzgU
    have hzgU := hzogU
    clear hzogU
    refine hK.out _ _ (bl_on hHeld hb_u1 hHeld.size) (fun hHeld => ?_)
    clear hK K
    refine nm_ (some 13) ?_
    refine pu_ 5 15 (bs 17 32703) ?_ ?_ ?_ ?_ ?_
    rotate_left
    ·intro w'
     go_simp
     with_reducible rfl
    rotate_left
    ·simp only [aS, i64_w, i32_w]
     rfl
    refine on1_ 6 (some 16) (bs 17 32767) rfl fun K hK => ?_
    refine gs_ Try.func75 #[.pointer (some ⟨gf, 0, none⟩), pairV x 1] rfl ?_
    with_reducible refine (HO.out _ (HF.out.below hHeld HF.out.size)).mono ?_
    rintro e u2 ⟨rfl, hb_u2⟩
    refine ⟨_, rfl, ?_⟩
    have hzogV := hzgV.on hb_u2
    clear hzgV
    have hzgV := hzogV
    clear hzogV
    have hzogU := hzgU.on hb_u2
    clear hzgU
    have hzgU := hzogU
    clear hzogU
    refine hK.out _ _ (bl_on hHeld hb_u2 hHeld.size) (fun hHeld => ?_)
    clear hK K
    refine nm_ (some 16) ?_
    exact norm_ (by simp only [putAll, aS]) (hCont (w1.heap.size + 1, w1.heap.size) _ ⟨hHeld, hzgU, hsgU, hzgV, hsgV, Nat.ne_of_gt hngVgU⟩)
 rintro ⟨gU, gV⟩ w5 ⟨hHeld, hzgU, hsgU, hzgV, hsgV, hnegUgV⟩
 refine norm_ (a' := ?_) ?_ ?_
 rotate_left
 ·simp only [putAll, aS]
  rfl
 refine on1_ 15 none (bs 17 65535) rfl fun K hK => ?_
 refine skip_pair hzgU (by rfl) rfl (.tmp 6) (.tmp 16) rfl rfl rfl ?_
 intro u5 hA5 hT5
 refine hK.out _ _ (bl_but hHeld hT5 hHeld.size hsgU) (fun hHeld => ?_)
 clear hK K
 refine last_ (i := 16) (N := none) (bs 17 131071) rfl rfl (by kernel_rfl) (by decide) (fun K hK => ?_)
 refine skip_pair (n := m) (b := 0) (hzgV.but hT5 hnegUgV.symm) (by rfl) rfl (.tmp 7) (.tmp 22) rfl rfl rfl ?_
 intro u6 hA6 hT6
 refine hK.out _ _ ?_
 clear hK K
 refine done_ (by kernel_rfl) ?_
 have HXgU : Aside0 (w.heap.size + 1 + 1 ≤ gU) := Aside0.mk (Nat.le_trans HS.out hsgU)
 have HXgV : Aside0 (w.heap.size + 1 + 1 ≤ gV) := Aside0.mk (Nat.le_trans HS.out hsgV)
 have HNE : Aside0 (gU ≠ gV) := Aside0.mk hnegUgV
 have HU := Aside0.mk hA5
 replace HA := Aside0.mk (HA.out.on hHeld)
 replace HR := Aside0.mk (HR.out.on hHeld)
 replace HF := Aside0.mk (HF.out.on hHeld)
 replace HB := Aside0.mk (bl_on HB.out hHeld HB.out.size)
 replace HS := Aside0.mk (Nat.le_trans HS.out hHeld.size)
 replace HA := Aside0.mk (HA.out.but hT6 (by first | omega | exact HNE.out | exact HNE.out.symm | (have := HG.out; have := HXgU.out; have := HXgV.out; omega)))
 replace HR := Aside0.mk (HR.out.but hT6 (by first | omega | exact HNE.out | exact HNE.out.symm | (have := HG.out; have := HXgU.out; have := HXgV.out; omega)))
 replace HF := Aside0.mk (HF.out.but hT6 (by first | omega | exact HNE.out | exact HNE.out.symm | (have := HG.out; have := HXgU.out; have := HXgV.out; omega)))
 replace HU := Aside0.mk (HU.out.but hT6 (by first | omega | exact HNE.out | exact HNE.out.symm | (have := HG.out; have := HXgU.out; have := HXgV.out; omega)))
 have HV := Aside0.mk hA6
 replace HB := Aside0.mk (bl_but HB.out hT6 HB.out.size (by have := HXgV.out; omega))
 replace HS := Aside0.mk (Nat.le_trans HS.out hT6.size)
 clear hA6 hT6
 clear hA5 hT5 hHeld hzgU hzgV hsgU hsgV hnegUgV HI
 go_wp2
 go_loopw [] (fun wr => ∃ un ub vn vb : Nat, Aside0 (Inv4 m a un ub vn vb) ∧ Aside0 (NAt wr (w.heap.size) a) ∧ Aside0 (NAt wr (w.heap.size + 1) 0) ∧ Aside0 (FAt wr gf m t o s) ∧ Aside0 (PAt wr gU un ub) ∧ Aside0 (PAt wr gV vn vb) ∧ Aside0 (Below w.heap.size w wr) ∧ Aside0 (w.heap.size + 1 + 1 ≤ wr.heap.size))
  (fun wr => numIn wr gU + numIn wr gV)
 case atStart => exact ⟨n1, b1, m, 0, HST, HA, HR, HF, HU, HV, HB, HS⟩
 case round =>
  clear HST HA HR HF HU HV HB HS HO
  obtain ⟨un, ub, vn, vb, HIN, HA, HR, HF, HU, HV, HB, HS⟩ := hrel
  obtain ⟨u0, hu0⟩ : ∃ x, x = wr := ⟨_, rfl⟩
  subst hu0
  have q0 := fun w => neq_zero HIN.out.lu w
  by_cases h0 : un = 0
  ·have d1 : (!decide (un = 0)) = false := by simp [h0]
   rw [d1] at q0
   have q1 := fun w => neq_one HIN.out.lv w
   have hin := HIN.out
   rw [h0] at hin
   by_cases h1 : vn = 1
   ·have d2 : (!decide (vn = 1)) = false := by simp [h1]
    rw [d2] at q1
    rw [h1] at hin
    have HIO := Aside0.mk (hin.found HCM.out.2.2)
    clear hin h0 h1 d1 d2
    go_wp2_with (first | ((with_reducible refine gate_dst (N := 24) rfl ?_); refine ld_num (HU.out.range0) rfl _ rfl rfl ?_) | ((with_reducible refine gate_dst (N := 54) rfl ?_); refine ld_num (HV.out.range0) rfl _ rfl rfl ?_) | ((with_reducible refine gate_dst (N := 60) rfl ?_); refine ld_num (HV.out.range4) rfl _ rfl rfl ?_) | ((with_reducible refine gate_st (y := .tmp 60) rfl ?_); refine st_num (HR.out) rfl _ _ rfl rfl rfl ?_; intro u1 hA1 hT1; replace HA := Aside0.mk (HA.out.but hT1 (by first | omega | exact HNE.out | exact HNE.out.symm | (have := HG.out; have := HXgU.out; have := HXgV.out; omega))); replace HF := Aside0.mk (HF.out.but hT1 (by first | omega | exact HNE.out | exact HNE.out.symm | (have := HG.out; have := HXgU.out; have := HXgV.out; omega))); replace HU := Aside0.mk (HU.out.but hT1 (by first | omega | exact HNE.out | exact HNE.out.symm | (have := HG.out; have := HXgU.out; have := HXgV.out; omega))); replace HV := Aside0.mk (HV.out.but hT1 (by first | omega | exact HNE.out | exact HNE.out.symm | (have := HG.out; have := HXgU.out; have := HXgV.out; omega))); replace HR := Aside0.mk hA1; replace HB := Aside0.mk (bl_but HB.out hT1 HB.out.size (by omega)); replace HS := Aside0.mk (Nat.le_trans HS.out hT1.size); clear hA1 hT1))
    exact bodyPost_ret (v := .tuple #[numV vb, .nilIface]) (results_two rfl rfl rfl HR.out) rfl ⟨by unfold invV invE; rw [HIO.out]; rfl, HB.out⟩
   ·have d2 : (!decide (vn = 1)) = true := by simp [h1]
    rw [d2] at q1
    have HIO := Aside0.mk (hin.lost HCM.out.2.2 h1)
    clear hin h0 h1 d1 d2
    go_wp2_with (first | ((with_reducible refine gate_dst (N := 24) rfl ?_); refine ld_num (HU.out.range0) rfl _ rfl rfl ?_) | ((with_reducible refine gate_dst (N := 54) rfl ?_); refine ld_num (HV.out.range0) rfl _ rfl rfl ?_) | ((with_reducible refine gate_st (y := .tmp 57) rfl ?_); refine st_num (n := 0) (HR.out) rfl _ _ rfl rfl rfl ?_; intro u1 hA1 hT1; replace HA := Aside0.mk (HA.out.but hT1 (by first | omega | exact HNE.out | exact HNE.out.symm | (have := HG.out; have := HXgU.out; have := HXgV.out; omega))); replace HF := Aside0.mk (HF.out.but hT1 (by first | omega | exact HNE.out | exact HNE.out.symm | (have := HG.out; have := HXgU.out; have := HXgV.out; omega))); replace HU := Aside0.mk (HU.out.but hT1 (by first | omega | exact HNE.out | exact HNE.out.symm | (have := HG.out; have := HXgU.out; have := HXgV.out; omega))); replace HV := Aside0.mk (HV.out.but hT1 (by first | omega | exact HNE.out | exact HNE.out.symm | (have := HG.out; have := HXgU.out; have := HXgV.out; omega))); replace HR := Aside0.mk hA1; replace HB := Aside0.mk (bl_but HB.out hT1 HB.out.size (by omega)); replace HS := Aside0.mk (Nat.le_trans HS.out hT1.size); clear hA1 hT1))
    exact bodyPost_ret (v := .tuple #[numV 0, .iface 38 (.int .i64 4)]) (results_two rfl rfl rfl HR.out) rfl ⟨by unfold invV invE; rw [HIO.out]; rfl, HB.out⟩
  ·have d1 : (!decide (un = 0)) = true := by simp [h0]
   rw [d1] at q0
   have HN0 : Aside0 (numIn u0 gU + numIn u0 gV = un + vn) := Aside0.mk (by rw [HU.out.num HIN.out.lu, HV.out.num HIN.out.lv])
   have HC := Aside0.mk (fun u => cmp_calls (IsNum.mk HIN.out.lu) (IsNum.mk HIN.out.lv) u)
   have HU0 := Aside0.mk h0
   by_cases hlt : un < vn
   ·have dc := cmp_neg hlt
    generalize cmpI un vn = c at *
    have HI2 := Aside0.mk (HIN.out.swap h0)
    have HLE : Aside0 (un ≤ vn) := Aside0.mk (Nat.le_of_lt hlt)
    have HP0 : Aside0 (vn ≠ 0) := Aside0.mk (by omega)
    clear h0 d1 hlt
    obtain ⟨n, hn⟩ : ∃ n, n = vn - un := ⟨_, rfl⟩
    obtain ⟨b, hb⟩ : ∃ b, b = (vb + m - ub) % m := ⟨_, rfl⟩
    have hst := HI2.out.step HCM.out.2.1 HP0.out HLE.out
    rw [← hn, ← hb] at hst
    have hnN : n < N256 := by rw [hn]; exact Nat.lt_of_le_of_lt (Nat.sub_le _ _) HI2.out.lu
    have hbm : b < m := by rw [hb]; exact Nat.mod_lt _ (by have := HCM.out.2.2; omega)
    have HSC := Aside0.mk (fun u => sub_calls (IsNum.mk HI2.out.lu) (IsNum.mk HI2.out.lv) u)
    have hsn : (vn + N256 - un) % N256 = n := by rw [hn, show vn + N256 - un = (vn - un) + N256 by have := HLE.out; omega, Nat.add_mod_right, Nat.mod_eq_of_lt (Nat.lt_of_le_of_lt (Nat.sub_le _ _) HI2.out.lu)]
    rw [hsn] at HSC
    have HFS := Aside0.mk (fun (u : World) (h : FAt u gf m t o s) => fieldsub_calls vb ub u h HCM.out.1 (by have := HCM.out.2.2; omega) (Nat.lt_trans HI2.out.lub HCM.out.1) (Nat.lt_trans HI2.out.lvb HCM.out.1))
    rw [Nat.mod_eq_of_lt HI2.out.lub, Nat.mod_eq_of_lt HI2.out.lvb, ← hb, numV_def b] at HFS
    have HFO := Aside0.mk (fun (u : World) (h : FAt u gf m t o s) => fodd_calls n b u h HCM.out.1 HCM.out.2.1 hnN hbm)
    generalize (odF m n b).1 = n2 at *
    generalize (odF m n b).2 = b2 at *
    have HST := Aside0.mk hst
    generalize decide (vn < un) = E at *
    clear hn hb hst hnN hbm hsn
    go_upto_region 6 with (first | ((with_reducible refine gate_dst (N := 24) rfl ?_); refine ld_num (HU.out.range0) rfl _ rfl rfl ?_) | ((with_reducible refine gate_dst (N := 28) rfl ?_); refine ld_num (HU.out.range0) rfl _ rfl rfl ?_) | ((with_reducible refine gate_dst (N := 30) rfl ?_); refine ld_num (HV.out.range0) rfl _ rfl rfl ?_) | ((with_reducible refine gate_callee (f := 54) rfl ?_); refine goesL_ (some 31) rfl rfl Try.func54 (by kernel_rfl) rfl #[numV un, numV vn] rfl (by (try simp only [List.map_toArray, List.map_cons, List.map_nil]); first | done | rfl) ?_; (with_reducible refine (HC.out _).mono ?_); rintro e u1 ⟨rfl, hb1⟩; replace HA := Aside0.mk (HA.out.on hb1); replace HR := Aside0.mk (HR.out.on hb1); replace HF := Aside0.mk (HF.out.on hb1); replace HU := Aside0.mk (HU.out.on hb1); replace HV := Aside0.mk (HV.out.on hb1); replace HB := Aside0.mk (bl_on HB.out hb1 HB.out.size); replace HS := Aside0.mk (Nat.le_trans HS.out hb1.size); clear hb1; refine ⟨_, rfl, ?_⟩) | ((with_reducible refine gate_dst (N := 33) rfl ?_); refine ld_pair HV.out rfl _ rfl rfl ?_) | ((with_reducible refine gate_dst (N := 34) rfl ?_); refine ld_pair HU.out rfl _ rfl rfl ?_) | ((with_reducible refine gate_st (y := .tmp 33) rfl ?_); refine st_pair HU.out rfl _ _ rfl rfl rfl ?_; intro v1 hA1 hT1; replace HA := Aside0.mk (HA.out.but hT1 (by first | omega | exact HNE.out | exact HNE.out.symm | (have := HG.out; have := HXgU.out; have := HXgV.out; omega))); replace HR := Aside0.mk (HR.out.but hT1 (by first | omega | exact HNE.out | exact HNE.out.symm | (have := HG.out; have := HXgU.out; have := HXgV.out; omega))); replace HF := Aside0.mk (HF.out.but hT1 (by first | omega | exact HNE.out | exact HNE.out.symm | (have := HG.out; have := HXgU.out; have := HXgV.out; omega))); replace HV := Aside0.mk (HV.out.but hT1 (by first | omega | exact HNE.out | exact HNE.out.symm | (have := HG.out; have := HXgU.out; have := HXgV.out; omega))); replace HU := Aside0.mk hA1; replace HB := Aside0.mk (bl_but HB.out hT1 HB.out.size (by have := HXgU.out; omega)); replace HS := Aside0.mk (Nat.le_trans HS.out hT1.size); clear hA1 hT1) | ((with_reducible refine gate_st (y := .tmp 34) rfl ?_); refine st_pair HV.out rfl _ _ rfl rfl rfl ?_; intro v2 hA2 hT2; replace HA := Aside0.mk (HA.out.but hT2 (by first | omega | exact HNE.out | exact HNE.out.symm | (have := HG.out; have := HXgU.out; have := HXgV.out; omega))); replace HR := Aside0.mk (HR.out.but hT2 (by first | omega | exact HNE.out | exact HNE.out.symm | (have := HG.out; have := HXgU.out; have := HXgV.out; omega))); replace HF := Aside0.mk (HF.out.but hT2 (by first | omega | exact HNE.out | exact HNE.out.symm | (have := HG.out; have := HXgU.out; have := HXgV.out; omega))); replace HU := Aside0.mk (HU.out.but hT2 (by first | omega | exact HNE.out | exact HNE.out.symm | (have := HG.out; have := HXgU.out; have := HXgV.out; omega))); replace HV := Aside0.mk hA2; replace HB := Aside0.mk (bl_but HB.out hT2 HB.out.size (by have := HXgV.out; omega)); replace HS := Aside0.mk (Nat.le_trans HS.out hT2.size); clear hA2 hT2) | ((with_reducible refine gate_dst (N := 37) rfl ?_); refine ld_num (HU.out.range0) rfl _ rfl rfl ?_) | ((with_reducible refine gate_dst (N := 39) rfl ?_); refine ld_num (HV.out.range0) rfl _ rfl rfl ?_) | ((with_reducible refine gate_callee (f := 73) rfl ?_); refine goesL_ (some 40) rfl rfl Try.func73 (by kernel_rfl) rfl #[numV vn, numV un] rfl (by (try simp only [List.map_toArray, List.map_cons, List.map_nil]); first | done | rfl) ?_; (with_reducible refine (HSC.out _).mono ?_); rintro e v3 ⟨rfl, hb3⟩; replace HA := Aside0.mk (HA.out.on hb3); replace HR := Aside0.mk (HR.out.on hb3); replace HF := Aside0.mk (HF.out.on hb3); replace HU := Aside0.mk (HU.out.on hb3); replace HV := Aside0.mk (HV.out.on hb3); replace HB := Aside0.mk (bl_on HB.out hb3 HB.out.size); replace HS := Aside0.mk (Nat.le_trans HS.out hb3.size); clear hb3; refine ⟨_, rfl, ?_⟩) | ((with_reducible refine gate_dst (N := 8) rfl ?_); refine al_num rfl _ rfl rfl ?_; intro gN v4 egN HN hb4; have HXgN : Aside0 (gf < gN ∧ gU < gN ∧ gV < gN ∧ w.heap.size + 1 + 1 ≤ gN) := Aside0.mk (by rw [egN]; exact ⟨HF.out.size, HU.out.size, HV.out.size, HS.out⟩); replace HN := Aside0.mk HN; clear egN; replace HA := Aside0.mk (HA.out.on hb4); replace HR := Aside0.mk (HR.out.on hb4); replace HF := Aside0.mk (HF.out.on hb4); replace HU := Aside0.mk (HU.out.on hb4); replace HV := Aside0.mk (HV.out.on hb4); replace HB := Aside0.mk (bl_on HB.out hb4 HB.out.size); replace HS := Aside0.mk (Nat.le_trans HS.out hb4.size); clear hb4) | ((with_reducible refine gate_st (y := .tmp 41) rfl ?_); refine st_num (HN.out) rfl _ _ rfl rfl rfl ?_; intro v5 hA5 hT5; replace HA := Aside0.mk (HA.out.but hT5 (by first | omega | exact HNE.out | exact HNE.out.symm | (have := HG.out; have := HXgU.out; have := HXgV.out; have := HXgN.out; omega))); replace HR := Aside0.mk (HR.out.but hT5 (by first | omega | exact HNE.out | exact HNE.out.symm | (have := HG.out; have := HXgU.out; have := HXgV.out; have := HXgN.out; omega))); replace HF := Aside0.mk (HF.out.but hT5 (by first | omega | exact HNE.out | exact HNE.out.symm | (have := HG.out; have := HXgU.out; have := HXgV.out; have := HXgN.out; omega))); replace HU := Aside0.mk (HU.out.but hT5 (by first | omega | exact HNE.out | exact HNE.out.symm | (have := HG.out; have := HXgU.out; have := HXgV.out; have := HXgN.out; omega))); replace HV := Aside0.mk (HV.out.but hT5 (by first | omega | exact HNE.out | exact HNE.out.symm | (have := HG.out; have := HXgU.out; have := HXgV.out; have := HXgN.out; omega))); replace HN := Aside0.mk hA5; replace HB := Aside0.mk (bl_but HB.out hT5 HB.out.size (by have := HXgN.out; omega)); replace HS := Aside0.mk (Nat.le_trans HS.out hT5.size); clear hA5 hT5))
    clear q0 dc
    refine start_ (n := 11) (S := fun w' => Below v5.heap.size v5 w') (ds := [10]) (bs 11 0) (by kernel_rfl) rfl rfl ((Below.refl _ _).drew) (fun hHeld => ?_)
    refine pu_ 0 43 (bs 11 1) ?_ ?_ ?_ ?_ ?_
    rotate_left
    ·intro w'
     go_simp
     with_reducible rfl
    rotate_left
    ·simp only [aS, i64_w, i32_w]
     rfl
    refine pu_ 2 45 (bs 11 5) ?_ ?_ ?_ ?_ ?_
    rotate_left
    ·intro w'
     go_simp
     with_reducible rfl
    rotate_left
    ·simp only [aS, i64_w, i32_w]
     rfl
    refine pu_ 3 46 (bs 11 13) ?_ ?_ ?_ ?_ ?_
    rotate_left
    ·intro w'
     go_simp
     with_reducible rfl
    rotate_left
    ·simp only [aS, i64_w, i32_w]
     rfl
    refine pu_ 5 48 (bs 11 45) ?_ ?_ ?_ ?_ ?_
    rotate_left
    ·intro w'
     go_simp
     with_reducible rfl
    rotate_left
    ·simp only [aS, i64_w, i32_w]
     rfl
    refine take_ (i := 1) (N := some 44) (a' := ?_) (bs 11 47) rfl rfl (by kernel_rfl) (fun _ _ _ h => h) (yields_numx (g := gN) (o := 0) (n := n) (by rfl) (.tmp 8) rfl rfl (fun w' hS => (HN.out.below hS HN.out.size).range)) hHeld ?_ ?_
    rotate_left
    ·simp only [aS, i64_w, i32_w]
     rfl
    refine take_ (i := 4) (N := some 47) (a' := ?_) (bs 11 63) rfl rfl (by kernel_rfl) (fun _ _ _ h => h) (yields_num (g := gU) (o := 4) (n := vb) (by rfl) (.tmp 46) rfl rfl (fun w' hS => (HU.out.below hS HU.out.size).range4)) hHeld ?_ ?_
    rotate_left
    ·simp only [aS, i64_w, i32_w]
     rfl
    refine take_ (i := 6) (N := some 49) (a' := ?_) (bs 11 127) rfl rfl (by kernel_rfl) (fun _ _ _ h => h) (yields_num (g := gV) (o := 4) (n := ub) (by rfl) (.tmp 48) rfl rfl (fun w' hS => (HV.out.below hS HV.out.size).range4)) hHeld ?_ ?_
    rotate_left
    ·simp only [aS, i64_w, i32_w]
     rfl
    refine on1_ 7 (some 50) (bs 11 255) rfl fun K hK => ?_
    refine gs_ Try.func52 #[.pointer (some ⟨gf, 0, none⟩), numV vb, numV ub] rfl ?_
    with_reducible refine (HFS.out _ (HF.out.below hHeld HF.out.size)).mono ?_
    rintro e v6 ⟨rfl, hb6⟩
    refine ⟨_, rfl, ?_⟩
    refine hK.out _ _ (hHeld.trans (hb6.mono hHeld.size)) (fun hHeld => ?_)
    clear hK K
    refine nm_ (some 50) ?_
    refine pu_ 8 51 (bs 11 511) ?_ ?_ ?_ ?_ ?_
    rotate_left
    ·intro w'
     go_simp
     with_reducible rfl
    rotate_left
    ·simp only [aS, i64_w, i32_w]
     rfl
    refine on1_ 9 (some 52) (bs 11 1023) rfl fun K hK => ?_
    refine gs_ Try.func75 #[.pointer (some ⟨gf, 0, none⟩), pairV n b] rfl ?_
    with_reducible refine (HFO.out _ (HF.out.below hHeld HF.out.size)).mono ?_
    rintro e v7 ⟨rfl, hb7⟩
    refine ⟨_, rfl, ?_⟩
    refine hK.out _ _ (hHeld.trans (hb7.mono hHeld.size)) (fun hHeld => ?_)
    clear hK K
    refine nm_ (some 52) ?_
    refine last_ (i := 10) (N := none) (bs 11 2047) rfl rfl (by kernel_rfl) (by decide) (fun K hK => ?_)
    refine skip_pair (HU.out.below hHeld HU.out.size) (by rfl) rfl (.tmp 6) (.tmp 52) rfl rfl rfl ?_
    intro v8 hA8 hT8
    refine hK.out _ _ ?_
    clear hK K
    refine done_ (by kernel_rfl) ?_
    replace HA := Aside0.mk (HA.out.on hHeld)
    replace HR := Aside0.mk (HR.out.on hHeld)
    replace HF := Aside0.mk (HF.out.on hHeld)
    replace HU := Aside0.mk (HU.out.on hHeld)
    replace HV := Aside0.mk (HV.out.on hHeld)
    replace HN := Aside0.mk (HN.out.on hHeld)
    replace HB := Aside0.mk (bl_on HB.out hHeld HB.out.size)
    replace HS := Aside0.mk (Nat.le_trans HS.out hHeld.size)
    clear hHeld hb6 hb7
    replace HA := Aside0.mk (HA.out.but hT8 (by first | omega | exact HNE.out | exact HNE.out.symm | (have := HG.out; have := HXgU.out; have := HXgV.out; have := HXgN.out; omega)))
    replace HR := Aside0.mk (HR.out.but hT8 (by first | omega | exact HNE.out | exact HNE.out.symm | (have := HG.out; have := HXgU.out; have := HXgV.out; have := HXgN.out; omega)))
    replace HF := Aside0.mk (HF.out.but hT8 (by first | omega | exact HNE.out | exact HNE.out.symm | (have := HG.out; have := HXgU.out; have := HXgV.out; have := HXgN.out; omega)))
    replace HV := Aside0.mk (HV.out.but hT8 (by first | omega | exact HNE.out | exact HNE.out.symm | (have := HG.out; have := HXgU.out; have := HXgV.out; have := HXgN.out; omega)))
    replace HN := Aside0.mk (HN.out.but hT8 (by first | omega | exact HNE.out | exact HNE.out.symm | (have := HG.out; have := HXgU.out; have := HXgV.out; have := HXgN.out; omega)))
    replace HU := Aside0.mk hA8
    replace HB := Aside0.mk (bl_but HB.out hT8 HB.out.size (by have := HXgU.out; omega))
    replace HS := Aside0.mk (Nat.le_trans HS.out hT8.size)
    clear hA8 hT8
    go_wp2
    refine ⟨⟨n2, b2, un, ub, Aside0.mk HST.out.1, HA, HR, HF, HU, HV, HB, HS⟩, ?_⟩
    rw [HN0.out, HU.out.num HST.out.1.lu, HV.out.num HST.out.1.lv]
    rw [Nat.add_comm un vn]
    exact HST.out.2
   ·have dc := cmp_pos hlt
    generalize cmpI un vn = c at *
    have HI2 := Aside0.mk HIN.out
    have HLE : Aside0 (vn ≤ un) := Aside0.mk (Nat.le_of_not_lt hlt)
    have HP0 : Aside0 (un ≠ 0) := Aside0.mk h0
    clear h0 d1 hlt
    obtain ⟨n, hn⟩ : ∃ n, n = un - vn := ⟨_, rfl⟩
    obtain ⟨b, hb⟩ : ∃ b, b = (ub + m - vb) % m := ⟨_, rfl⟩
    have hst := HI2.out.step HCM.out.2.1 HP0.out HLE.out
    rw [← hn, ← hb] at hst
    have hnN : n < N256 := by rw [hn]; exact Nat.lt_of_le_of_lt (Nat.sub_le _ _) HI2.out.lu
    have hbm : b < m := by rw [hb]; exact Nat.mod_lt _ (by have := HCM.out.2.2; omega)
    have HSC := Aside0.mk (fun u => sub_calls (IsNum.mk HI2.out.lu) (IsNum.mk HI2.out.lv) u)
    have hsn : (un + N256 - vn) % N256 = n := by rw [hn, show un + N256 - vn = (un - vn) + N256 by have := HLE.out; omega, Nat.add_mod_right, Nat.mod_eq_of_lt (Nat.lt_of_le_of_lt (Nat.sub_le _ _) HI2.out.lu)]
    rw [hsn] at HSC
    have HFS := Aside0.mk (fun (u : World) (h : FAt u gf m t o s) => fieldsub_calls ub vb u h HCM.out.1 (by have := HCM.out.2.2; omega) (Nat.lt_trans HI2.out.lub HCM.out.1) (Nat.lt_trans HI2.out.lvb HCM.out.1))
    rw [Nat.mod_eq_of_lt HI2.out.lub, Nat.mod_eq_of_lt HI2.out.lvb, ← hb, numV_def b] at HFS
    have HFO := Aside0.mk (fun (u : World) (h : FAt u gf m t o s) => fodd_calls n b u h HCM.out.1 HCM.out.2.1 hnN hbm)
    generalize (odF m n b).1 = n2 at *
    generalize (odF m n b).2 = b2 at *
    have HST := Aside0.mk hst
    generalize decide (un < vn) = E at *
    clear hn hb hst hnN hbm hsn
    go_upto_region 6 with (first | ((with_reducible refine gate_dst (N := 24) rfl ?_); refine ld_num (HU.out.range0) rfl _ rfl rfl ?_) | ((with_reducible refine gate_dst (N := 28) rfl ?_); refine ld_num (HU.out.range0) rfl _ rfl rfl ?_) | ((with_reducible refine gate_dst (N := 30) rfl ?_); refine ld_num (HV.out.range0) rfl _ rfl rfl ?_) | ((with_reducible refine gate_callee (f := 54) rfl ?_); refine goesL_ (some 31) rfl rfl Try.func54 (by kernel_rfl) rfl #[numV un, numV vn] rfl (by (try simp only [List.map_toArray, List.map_cons, List.map_nil]); first | done | rfl) ?_; (with_reducible refine (HC.out _).mono ?_); rintro e u1 ⟨rfl, hb1⟩; replace HA := Aside0.mk (HA.out.on hb1); replace HR := Aside0.mk (HR.out.on hb1); replace HF := Aside0.mk (HF.out.on hb1); replace HU := Aside0.mk (HU.out.on hb1); replace HV := Aside0.mk (HV.out.on hb1); replace HB := Aside0.mk (bl_on HB.out hb1 HB.out.size); replace HS := Aside0.mk (Nat.le_trans HS.out hb1.size); clear hb1; refine ⟨_, rfl, ?_⟩) | ((with_reducible refine gate_dst (N := 37) rfl ?_); refine ld_num (HU.out.range0) rfl _ rfl rfl ?_) | ((with_reducible refine gate_dst (N := 39) rfl ?_); refine ld_num (HV.out.range0) rfl _ rfl rfl ?_) | ((with_reducible refine gate_callee (f := 73) rfl ?_); refine goesL_ (some 40) rfl rfl Try.func73 (by kernel_rfl) rfl #[numV un, numV vn] rfl (by (try simp only [List.map_toArray, List.map_cons, List.map_nil]); first | done | rfl) ?_; (with_reducible refine (HSC.out _).mono ?_); rintro e v3 ⟨rfl, hb3⟩; replace HA := Aside0.mk (HA.out.on hb3); replace HR := Aside0.mk (HR.out.on hb3); replace HF := Aside0.mk (HF.out.on hb3); replace HU := Aside0.mk (HU.out.on hb3); replace HV := Aside0.mk (HV.out.on hb3); replace HB := Aside0.mk (bl_on HB.out hb3 HB.out.size); replace HS := Aside0.mk (Nat.le_trans HS.out hb3.size); clear hb3; refine ⟨_, rfl, ?_⟩) | ((with_reducible refine gate_dst (N := 8) rfl ?_); refine al_num rfl _ rfl rfl ?_; intro gN v4 egN HN hb4; have HXgN : Aside0 (gf < gN ∧ gU < gN ∧ gV < gN ∧ w.heap.size + 1 + 1 ≤ gN) := Aside0.mk (by rw [egN]; exact ⟨HF.out.size, HU.out.size, HV.out.size, HS.out⟩); replace HN := Aside0.mk HN; clear egN; replace HA := Aside0.mk (HA.out.on hb4); replace HR := Aside0.mk (HR.out.on hb4); replace HF := Aside0.mk (HF.out.on hb4); replace HU := Aside0.mk (HU.out.on hb4); replace HV := Aside0.mk (HV.out.on hb4); replace HB := Aside0.mk (bl_on HB.out hb4 HB.out.size); replace HS := Aside0.mk (Nat.le_trans HS.out hb4.size); clear hb4) | ((with_reducible refine gate_st (y := .tmp 41) rfl ?_); refine st_num (HN.out) rfl _ _ rfl rfl rfl ?_; intro v5 hA5 hT5; replace HA := Aside0.mk (HA.out.but hT5 (by first | omega | exact HNE.out | exact HNE.out.symm | (have := HG.out; have := HXgU.out; have := HXgV.out; have := HXgN.out; omega))); replace HR := Aside0.mk (HR.out.but hT5 (by first | omega | exact HNE.out | exact HNE.out.symm | (have := HG.out; have := HXgU.out; have := HXgV.out; have := HXgN.out; omega))); replace HF := Aside0.mk (HF.out.but hT5 (by first | omega | exact HNE.out | exact HNE.out.symm | (have := HG.out; have := HXgU.out; have := HXgV.out; have := HXgN.out; omega))); replace HU := Aside0.mk (HU.out.but hT5 (by first | omega | exact HNE.out | exact HNE.out.symm | (have := HG.out; have := HXgU.out; have := HXgV.out; have := HXgN.out; omega))); replace HV := Aside0.mk (HV.out.but hT5 (by first | omega | exact HNE.out | exact HNE.out.symm | (have := HG.out; have := HXgU.out; have := HXgV.out; have := HXgN.out; omega))); replace HN := Aside0.mk hA5; replace HB := Aside0.mk (bl_but HB.out hT5 HB.out.size (by have := HXgN.out; omega)); replace HS := Aside0.mk (Nat.le_trans HS.out hT5.size); clear hA5 hT5))
    clear q0 dc
    refine start_ (n := 11) (S := fun w' => Below v5.heap.size v5 w') (ds := [10]) (bs 11 0) (by kernel_rfl) rfl rfl ((Below.refl _ _).drew) (fun hHeld => ?_)
    refine pu_ 0 43 (bs 11 1) ?_ ?_ ?_ ?_ ?_
    rotate_left
    ·intro w'
     go_simp
     with_reducible rfl
    rotate_left
    ·simp only [aS, i64_w, i32_w]
     rfl
    refine pu_ 2 45 (bs 11 5) ?_ ?_ ?_ ?_ ?_
    rotate_left
    ·intro w'
     go_simp
     with_reducible rfl
    rotate_left
    ·simp only [aS, i64_w, i32_w]
     rfl
    refine pu_ 3 46 (bs 11 13) ?_ ?_ ?_ ?_ ?_
    rotate_left
    ·intro w'
     go_simp
     with_reducible rfl
    rotate_left
    ·simp only [aS, i64_w, i32_w]
     rfl
    refine pu_ 5 48 (bs 11 45) ?_ ?_ ?_ ?_ ?_
    rotate_left
    ·intro w'
     go_simp
     with_reducible rfl
    rotate_left
    ·simp only [aS, i64_w, i32_w]
     rfl
    refine take_ (i := 1) (N := some 44) (a' := ?_) (bs 11 47) rfl rfl (by kernel_rfl) (fun _ _ _ h => h) (yields_numx (g := gN) (o := 0) (n := n) (by rfl) (.tmp 8) rfl rfl (fun w' hS => (HN.out.below hS HN.out.size).range)) hHeld ?_ ?_
    rotate_left
    ·simp only [aS, i64_w, i32_w]
     rfl
    refine take_ (i := 4) (N := some 47) (a' := ?_) (bs 11 63) rfl rfl (by kernel_rfl) (fun _ _ _ h => h) (yields_num (g := gU) (o := 4) (n := ub) (by rfl) (.tmp 46) rfl rfl (fun w' hS => (HU.out.below hS HU.out.size).range4)) hHeld ?_ ?_
    rotate_left
    ·simp only [aS, i64_w, i32_w]
     rfl
    refine take_ (i := 6) (N := some 49) (a' := ?_) (bs 11 127) rfl rfl (by kernel_rfl) (fun _ _ _ h => h) (yields_num (g := gV) (o := 4) (n := vb) (by rfl) (.tmp 48) rfl rfl (fun w' hS => (HV.out.below hS HV.out.size).range4)) hHeld ?_ ?_
    rotate_left
    ·simp only [aS, i64_w, i32_w]
     rfl
    refine on1_ 7 (some 50) (bs 11 255) rfl fun K hK => ?_
    refine gs_ Try.func52 #[.pointer (some ⟨gf, 0, none⟩), numV ub, numV vb] rfl ?_
    with_reducible refine (HFS.out _ (HF.out.below hHeld HF.out.size)).mono ?_
    rintro e v6 ⟨rfl, hb6⟩
    refine ⟨_, rfl, ?_⟩
    refine hK.out _ _ (hHeld.trans (hb6.mono hHeld.size)) (fun hHeld => ?_)
    clear hK K
    refine nm_ (some 50) ?_
    refine pu_ 8 51 (bs 11 511) ?_ ?_ ?_ ?_ ?_
    rotate_left
    ·intro w'
     go_simp
     with_reducible rfl
    rotate_left
    ·simp only [aS, i64_w, i32_w]
     rfl
    refine on1_ 9 (some 52) (bs 11 1023) rfl fun K hK => ?_
    refine gs_ Try.func75 #[.pointer (some ⟨gf, 0, none⟩), pairV n b] rfl ?_
    with_reducible refine (HFO.out _ (HF.out.below hHeld HF.out.size)).mono ?_
    rintro e v7 ⟨rfl, hb7⟩
    refine ⟨_, rfl, ?_⟩
    refine hK.out _ _ (hHeld.trans (hb7.mono hHeld.size)) (fun hHeld => ?_)
    clear hK K
    refine nm_ (some 52) ?_
    refine last_ (i := 10) (N := none) (bs 11 2047) rfl rfl (by kernel_rfl) (by decide) (fun K hK => ?_)
    refine skip_pair (HU.out.below hHeld HU.out.size) (by rfl) rfl (.tmp 6) (.tmp 52) rfl rfl rfl ?_
    intro v8 hA8 hT8
    refine hK.out _ _ ?_
    clear hK K
    refine done_ (by kernel_rfl) ?_
    replace HA := Aside0.mk (HA.out.on hHeld)
    replace HR := Aside0.mk (HR.out.on hHeld)
    replace HF := Aside0.mk (HF.out.on hHeld)
    replace HU := Aside0.mk (HU.out.on hHeld)
    replace HV := Aside0.mk (HV.out.on hHeld)
    replace HN := Aside0.mk (HN.out.on hHeld)
    replace HB := Aside0.mk (bl_on HB.out hHeld HB.out.size)
    replace HS := Aside0.mk (Nat.le_trans HS.out hHeld.size)
    clear hHeld hb6 hb7
    replace HA := Aside0.mk (HA.out.but hT8 (by first | omega | exact HNE.out | exact HNE.out.symm | (have := HG.out; have := HXgU.out; have := HXgV.out; have := HXgN.out; omega)))
    replace HR := Aside0.mk (HR.out.but hT8 (by first | omega | exact HNE.out | exact HNE.out.symm | (have := HG.out; have := HXgU.out; have := HXgV.out; have := HXgN.out; omega)))
    replace HF := Aside0.mk (HF.out.but hT8 (by first | omega | exact HNE.out | exact HNE.out.symm | (have := HG.out; have := HXgU.out; have := HXgV.out; have := HXgN.out; omega)))
    replace HV := Aside0.mk (HV.out.but hT8 (by first | omega | exact HNE.out | exact HNE.out.symm | (have := HG.out; have := HXgU.out; have := HXgV.out; have := HXgN.out; omega)))
    replace HN := Aside0.mk (HN.out.but hT8 (by first | omega | exact HNE.out | exact HNE.out.symm | (have := HG.out; have := HXgU.out; have := HXgV.out; have := HXgN.out; omega)))
    replace HU := Aside0.mk hA8
    replace HB := Aside0.mk (bl_but HB.out hT8 HB.out.size (by have := HXgU.out; omega))
    replace HS := Aside0.mk (Nat.le_trans HS.out hT8.size)
    clear hA8 hT8
    go_wp2
    refine ⟨⟨n2, b2, vn, vb, Aside0.mk HST.out.1, HA, HR, HF, HU, HV, HB, HS⟩, ?_⟩
    rw [HN0.out, HU.out.num HST.out.1.lu, HV.out.num HST.out.1.lv]
    exact HST.out.2
end Go.Proofs.Ytkfjhndofbmhoaa
