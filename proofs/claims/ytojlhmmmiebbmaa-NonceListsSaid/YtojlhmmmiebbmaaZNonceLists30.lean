/- What the proof of NonceLists is made of, part 30. -/
import Derived.Test.YtojlhmmmiebbmaaZNonceLists26
import Derived.Test.YtojlhmmmiebbmaaZNonceLists28
import Derived.Test.YtojlhmmmiebbmaaZNonceLists29
import Derived.Test.YtojlhmmmiebbmaaZNonceLists31
import Derived.Test.YtojlhmmmiebbmaaZNonceLists33
import Derived.Test.YtojlhmmmiebbmaaZNonceLists34
namespace Go.Proofs.Ytojlhmmmiebbmaa
open Go.RowKit Go.Proofs.Ytojlhmmmiebbmaa.Arr Go.Proofs.YtojlhmmmiebbmaaW.PrintWords Go.Proofs.YtojlhmmmiebbmaaW.PrintLast Go.Proofs.YtojlhmmmiebbmaaW.PrintMore
set_option linter.unusedVariables false
set_option linter.unusedSimpArgs false
theorem lenN_two (m : Nat) (h : 1 < m) : ¬ ((lenN m : Int) < 2) := by
  have h2 : 2 ^ (lenN m - 1) ≤ m := by
    unfold lenN
    rw [if_neg (by omega), Nat.add_sub_cancel]
    exact Nat.log2_self_le (by omega)
  have h3 : m < 2 ^ (lenN m) := by
    unfold lenN
    rw [if_neg (by omega)]
    exact Nat.lt_log2_self
  intro hl
  have : lenN m ≤ 1 := by omega
  have h4 : (2 : Nat) ^ lenN m ≤ 2 ^ 1 := Nat.pow_le_pow_right (by decide) this
  omega
/-- Newton's rounds: what a lowest word is taken times to be 1 -/
def newt (a : Nat) : Nat → Nat
  | 0 => 1
  | k + 1 => newt a k * ((2 + 18446744073709551616 - a * newt a k % 18446744073709551616) % 18446744073709551616) % 18446744073709551616
theorem newt_lt (a : Nat) : ∀ k, newt a k < 18446744073709551616
  | 0 => show 1 < 18446744073709551616 by decide
  | k + 1 => Nat.mod_lt _ (by decide)
theorem newt_step (a k x y z : Nat) (hx : x = newt a k) (hy : y = a * x % 18446744073709551616) (hz : z = (2 + 18446744073709551616 - y) % 18446744073709551616) : x * z % 18446744073709551616 = newt a (k + 1) := by
  show _ = newt a k * ((2 + 18446744073709551616 - a * newt a k % 18446744073709551616) % 18446744073709551616) % 18446744073709551616
  rw [hz, hy, hx]
theorem wrap_mul (a b : Nat) : IntKind.u64.wrap ((a : Int) * (b : Int)) = ((a * b % 18446744073709551616 : Nat) : Int) := by
  rw [IntKind.wrap_u64, Int.natCast_emod, Int.natCast_mul]
  rfl
theorem wrap_two (y : Nat) (hy : y < 18446744073709551616) : IntKind.u64.wrap (2 - (y : Int)) = (((2 + 18446744073709551616 - y) % 18446744073709551616 : Nat) : Int) := by rw [IntKind.wrap_u64]; omega
theorem wrap_neg (y : Nat) (hy : y < 18446744073709551616) : IntKind.u64.wrap (-(y : Int)) = (((18446744073709551616 - y) % 18446744073709551616 : Nat) : Int) := by rw [IntKind.wrap_u64]; omega
def turnN (m : Nat) : Nat := (18446744073709551616 - newt (wd0 m) 6) % 18446744073709551616
section
variable {ops : Array Oper} {rest : List Oper} {op : Oper} {a : Act} {w : World} {Q : Exit → Act → World → Prop}
theorem ld_numx {g o n : Nat} (h : w.rangeAt g o (nw n)) (hgd : op.guard = none) (x : Operand) (ho : op.op = .load 24 x) (hx : a.eval x = .pointer (some ⟨g, o, none⟩))
    (k : wpList Try.prog ops Q rest (a.put op.dst (.agg #[.int .u64 (wd0 n : Nat), .int .u64 (wd1 n : Nat), .int .u64 (wd2 n : Nat), .int .u64 (wd3 n : Nat)])) w) : wpList Try.prog ops Q (op :: rest) a w := ld_num h hgd x ho hx k
theorem FAt.setO {g m t o s : Nat} (h : FAt w g m t o s) (c : Nat) : FAt (w.setCells g 5 (nw c)) g m t c s := by
  have h1 := (((Row.set h 5 (.int .u64 (wd0 c : Nat))).set 6 (.int .u64 (wd1 c : Nat))).set 7 (.int .u64 (wd2 c : Nat))).set 8 (.int .u64 (wd3 c : Nat))
  exact h1
theorem FAt.setS {g m t o s : Nat} (h : FAt w g m t o s) (c : Nat) : FAt (w.setCells g 9 (nw c)) g m t o c := by
  have h1 := (((Row.set h 9 (.int .u64 (wd0 c : Nat))).set 10 (.int .u64 (wd1 c : Nat))).set 11 (.int .u64 (wd2 c : Nat))).set 12 (.int .u64 (wd3 c : Nat))
  exact h1
theorem st_one {g m t o s n : Nat} (h : FAt w g m t o s) (hgd : op.guard = none) (x y : Operand) (ho : op.op = .store 24 x y) (hx : a.eval x = .pointer (some ⟨g, 5, none⟩)) (hy : a.eval y = numV n)
    (k : ∀ w', FAt w' g m t n s → But w.heap.size g w w' → wpList Try.prog ops Q rest (a.put op.dst undef) w') : wpList Try.prog ops Q (op :: rest) a w :=
  wpList_store_mid hgd 24 x y ho g 5 (nw n).toArray hx hy (Row.there h 5 4 (show (5 : Nat) + 4 ≤ 13 from by decide)) rfl (all_oneCell_toArray (nw_one n)) (k _ (h.setO n) (but_cells _ _ _ (But.of (Below.refl _ _))))
theorem skip_square {K : Act → World → Prop} {g m t o s n : Nat} (h : FAt w g m t o s) (hw : Region.wanted op (yielded ops a.tmps) = true) (hN : op.dst = none) (x y : Operand) (ho : op.op = .store 24 x y) (hx : a.eval x = .pointer (some ⟨g, 9, none⟩)) (hy : a.eval y = numV n)
    (k : ∀ w', FAt w' g m t o n → But w.heap.size g w w' → K a w') : if Region.wanted op (yielded ops a.tmps) = true then Oper.wp Try.prog op a w K Q else K (a.put none undef) w := by
  rw [if_pos hw]
  refine wp_store_mid 24 x y ho g 9 (nw n).toArray hx hy (Row.there h 9 4 (show (9 : Nat) + 4 ≤ 13 from by decide)) rfl (all_oneCell_toArray (nw_one n)) ?_
  rw [hN]
  exact k _ (h.setS n) (but_cells _ _ _ (But.of (Below.refl _ _)))
end
theorem new_field (w : World) (m t : Nat) : ∃ w1, w.alloc (.cells (nw m ++ ([Value.int .u64 (t : Nat)] ++ (nw 0 ++ nw 0))).toArray 60) = w1 ∧ FAt w1 w.heap.size m t 0 0 ∧ Below w.heap.size w w1 :=
  ⟨_, rfl, Row.new w _ _, below_alloc (Below.refl _ _) _⟩
theorem sq_512 (m : Nat) : (N256 % m) * (N256 % m) % m = N512 % m := by
  rw [← Nat.mul_mod]
  have e : N256 * N256 = N512 := by unfold N256 N512; decide
  rw [e]
theorem n256_lt512 : N256 < N512 := by unfold N256 N512; omega
theorem inc6 {t : Nat} (h : t < 6) : wrap64 ((t : Int) + 1) = (t : Int) + 1 := by unfold wrap64; omega
theorem meas6 {t : Nat} (h : t < 6) : 6 - (intOf (.int .i64 ((t : Int) + 1))).toNat < 6 - (intOf (.int .i64 (t : Int))).toNat := by
  show 6 - ((t : Int) + 1).toNat < 6 - (t : Int).toNat
  omega
set_option maxRecDepth 100000 in
set_option maxHeartbeats 8000000 in
/-- field.New -/
theorem fnew_calls (m : Nat) (w : World) (hm : m < N256) (hm1 : m % 2 = 1) (h1 : 1 < m) :
    Calls Try.prog 11 #[numV m] w fun e w' => ∃ gf, e = .returned (.tuple #[.pointer (some ⟨gf, 0, none⟩), .nilIface]) ∧ w.heap.size ≤ gf ∧ FAt w' gf m (turnN m) (N256 % m) (N512 % m) ∧ Below w.heap.size w w' := by
  have HL := Aside0.mk (fun u => len_calls (IsNum.mk hm) u)
  obtain ⟨b, hb⟩ : ∃ b, b = m % 2 := ⟨_, rfl⟩
  have f1 := and_bit (wd0 m) b (by rw [hb, wd0_even]) (wd0_lt m)
  have d1 := b_odd (b := b) (by omega)
  have d2 := decide_eq_false (lenN_two m h1)
  generalize lenN m = l at *
  have h0 : 0 < m := by omega
  obtain ⟨t, ht⟩ : ∃ t, t = turnN m := ⟨_, rfl⟩
  have HK := Aside0.mk (fun (g o1 : Nat) (u : World) (h : FAt u g m t o1 0) => fcut_calls N256 u h hm h0 n256_lt512)
  obtain ⟨o1, ho1⟩ : ∃ x, x = N256 % m := ⟨_, rfl⟩
  obtain ⟨s1, hs1⟩ : ∃ x, x = N512 % m := ⟨_, rfl⟩
  have hoN : o1 < N256 := Nat.lt_trans (by rw [ho1]; exact Nat.mod_lt _ h0) hm
  have HMU := Aside0.mk (fun u => mul_calls (IsNum.mk hoN) (IsNum.mk hoN) u)
  have HK2 := Aside0.mk (fun (g : Nat) (u : World) (h : FAt u g m t o1 0) => fcut_calls (o1 * o1) u h hm h0 (mul_lt512 hoN hoN))
  have hsq := sq_512 m
  rw [← ho1, ← hs1] at hsq
  rw [hsq] at HK2
  rw [← ho1] at HK
  obtain ⟨a, ha⟩ : ∃ a, a = wd0 m := ⟨_, rfl⟩
  have HT : Aside0 (t = (18446744073709551616 - newt a 6) % 18446744073709551616) := Aside0.mk (by rw [ht, ha]; rfl)
  rw [← ht, ← ho1, ← hs1]
  have HA0 := Aside0.mk ha
  clear hb h1 hm1 hm h0 ht ho1 hs1 hoN hsq ha
  rw [numV_def m]
  go_enter Try.func11, Try.ntmps11
  go_upto_region 1 with (fail)
  refine wp_at (w2 := (World.alloc w (.cells (nw m).toArray 24))) rfl ?_
  obtain ⟨x_0, e_0, h_0, b_0, s_0⟩ := new_num w m
  rw [e_0]
  have HB : Aside0 (Below w.heap.size w x_0) := Aside0.mk b_0
  have HA : Aside0 (NAt x_0 (w.heap.size) m) := Aside0.mk h_0
  have HS : Aside0 (w.heap.size + 1 ≤ x_0.heap.size) := Aside0.mk (Nat.le_of_eq s_0.symm)
  clear e_0 h_0 b_0 s_0
  obtain ⟨w1, hw_⟩ : ∃ x, x = x_0 := ⟨_, rfl⟩
  subst hw_
  obtain ⟨ca0, ca1, ca2, ca3⟩ := HA.out.cell
  go_wp2_with fail
  refine (HL.out _).mono ?_
  rintro e u1 ⟨rfl, hb1⟩
  clear ca0 ca1 ca2 ca3 f1
  replace HA := Aside0.mk (HA.out.on hb1)
  replace HB := Aside0.mk (bl_on HB.out hb1 HB.out.size)
  replace HS := Aside0.mk (Nat.le_trans HS.out hb1.size)
  clear hb1 HL
  go_wp2
  clear d1 d2
  go_loopw [4, 16] (fun vx vi wr => ∃ k : Nat, k ≤ 6 ∧ vi = .int .i64 (k : Int) ∧ vx = .int .u64 ((newt a k : Nat) : Int) ∧ Aside0 (NAt wr w.heap.size m) ∧ Aside0 (Below w.heap.size w wr) ∧ Aside0 (w.heap.size + 1 ≤ wr.heap.size))
    (fun _ vi _ => 6 - (intOf vi).toNat)
  case atStart => exact ⟨0, Nat.zero_le _, rfl, rfl, HA, HB, HS⟩
  case round =>
    clear HA HB HS
    obtain ⟨k, hk, rfl, rfl, HA, HB, HS⟩ := hrel
    obtain ⟨u0, hu0⟩ : ∃ x, x = wr := ⟨_, rfl⟩
    subst hu0
    by_cases hlt : k < 6
    · have t1 : (k : Int) < 6 := by omega
      obtain ⟨x, hx⟩ : ∃ x, x = newt a k := ⟨_, rfl⟩
      obtain ⟨y, hy⟩ : ∃ y, y = a * x % 18446744073709551616 := ⟨_, rfl⟩
      obtain ⟨z, hz⟩ : ∃ z, z = (2 + 18446744073709551616 - y) % 18446744073709551616 := ⟨_, rfl⟩
      have hst := newt_step a k x y z hx hy hz
      have q1 := wrap_mul a x
      rw [← hy] at q1
      have q2 := wrap_two y (by rw [hy]; exact Nat.mod_lt _ (by decide))
      rw [← hz] at q2
      have q3 := wrap_mul x z
      rw [hst] at q3
      obtain ⟨x2, hx2⟩ : ∃ x2, x2 = newt a (k + 1) := ⟨_, rfl⟩
      rw [← hx2] at q3
      have HX2 := Aside0.mk hx2
      rw [← hx]
      have ca0 := HA.out.cell.1
      rw [← HA0.out] at ca0
      have HLT := Aside0.mk hlt
      have q4 := inc6 hlt
      clear hx hy hz hst hlt hk hx2
      go_wp2
      refine ⟨⟨k + 1, HLT.out, ?_, ?_, HA, HB, HS⟩, ?_⟩
      · (try rw [q4]); rw [Int.natCast_add]; rfl
      · (try rw [q3]); rw [HX2.out]
      · (try rw [q4]); exact meas6 HLT.out
    · have hk6 : k = 6 := by omega
      subst hk6
      have hxl := newt_lt a 6
      obtain ⟨x, hx⟩ : ∃ x, x = newt a 6 := ⟨_, rfl⟩
      rw [← hx] at hxl HT
      rw [← hx]
      have q1 := wrap_neg x hxl
      rw [← HT.out] at q1
      rw [show ((6 : Nat) : Int) = 6 from rfl]
      clear hk hlt hxl hx HT
      go_upto_region 9 with (first | ((with_reducible refine gate_dst (N := 26) rfl ?_); refine ld_numx (HA.out.range) rfl _ rfl rfl ?_))
      refine wp_at (w2 := World.alloc u0 (.cells (nw m ++ ([Value.int .u64 (t : Nat)] ++ (nw 0 ++ nw 0))).toArray 60)) rfl ?_
      obtain ⟨u2, e2, hF, hb2⟩ := new_field u0 m t
      rw [e2]
      have HGE : Aside0 (w.heap.size + 1 ≤ u0.heap.size) := Aside0.mk HS.out
      have HF := Aside0.mk hF
      replace HA := Aside0.mk (HA.out.on hb2)
      replace HB := Aside0.mk (bl_on HB.out hb2 HB.out.size)
      replace HS := Aside0.mk (Nat.le_trans HS.out hb2.size)
      clear e2 hF hb2 q1
      generalize u0.heap.size = gf at *
      go_upto_region 10 with (first | ((with_reducible refine gate_callee (f := 28) rfl ?_); refine goesL_ (some 34) rfl rfl Try.func28 (by kernel_rfl) rfl #[.pointer (some ⟨gf, 0, none⟩), wideV N256] rfl (by (try simp only [List.map_toArray, List.map_cons, List.map_nil]); first | done | rfl) ?_; (with_reducible refine (HK.out gf 0 _ HF.out).mono ?_); rintro e v1 ⟨rfl, hb1⟩; replace HA := Aside0.mk (HA.out.on hb1); replace HF := Aside0.mk (HF.out.on hb1); replace HB := Aside0.mk (bl_on HB.out hb1 HB.out.size); replace HS := Aside0.mk (Nat.le_trans HS.out hb1.size); clear hb1; refine ⟨_, rfl, ?_⟩) | ((with_reducible refine gate_st (y := .tmp 34) rfl ?_); refine st_one HF.out rfl _ _ rfl rfl rfl ?_; intro v2 hA2 hT2; replace HA := Aside0.mk (HA.out.but hT2 (by have := HGE.out; omega)); replace HF := Aside0.mk hA2; replace HB := Aside0.mk (bl_but HB.out hT2 HB.out.size (by have := HGE.out; omega)); replace HS := Aside0.mk (Nat.le_trans HS.out hT2.size); clear hA2 hT2))
      refine start_ (n := 15) (S := fun w' => Below v2.heap.size v2 w') (ds := [14]) #[false, false, false, false, false, false, false, false, false, false, false, false, false, false, false] (by kernel_rfl) rfl rfl ((Below.refl _ _).drew) (fun hHeld => ?_)
      refine pure_ (i := 0) (N := some 37) (v := ?_) (a' := ?_) #[true, false, false, false, false, false, false, false, false, false, false, false, false, false, false] rfl rfl (by kernel_rfl) (fun _ _ _ h => h) (Or.inl ⟨by rfl, ?_⟩) ?_ ?_
      rotate_left
      · intro w'
        go_simp
        with_reducible rfl
      rotate_left
      · simp only [Act.put, List.setIfInBounds_toArray, List.set_cons_zero, List.set_cons_succ, i64_w, i32_w]
        rfl
      refine pure_ (i := 1) (N := some 38) (v := ?_) (a' := ?_) #[true, true, false, false, false, false, false, false, false, false, false, false, false, false, false] rfl rfl (by kernel_rfl) (fun _ _ _ h => h) (Or.inl ⟨by rfl, ?_⟩) ?_ ?_
      rotate_left
      · intro w'
        go_simp
        with_reducible rfl
      rotate_left
      · simp only [Act.put, List.setIfInBounds_toArray, List.set_cons_zero, List.set_cons_succ, i64_w, i32_w]
        rfl
      refine pure_ (i := 2) (N := some 39) (v := ?_) (a' := ?_) #[true, true, true, false, false, false, false, false, false, false, false, false, false, false, false] rfl rfl (by kernel_rfl) (fun _ _ _ h => h) (Or.inl ⟨by rfl, ?_⟩) ?_ ?_
      rotate_left
      · intro w'
        go_simp
        with_reducible rfl
      rotate_left
      · simp only [Act.put, List.setIfInBounds_toArray, List.set_cons_zero, List.set_cons_succ, i64_w, i32_w]
        rfl
      refine pure_ (i := 3) (N := some 40) (v := ?_) (a' := ?_) #[true, true, true, true, false, false, false, false, false, false, false, false, false, false, false] rfl rfl (by kernel_rfl) (fun _ _ _ h => h) (Or.inl ⟨by rfl, ?_⟩) ?_ ?_
      rotate_left
      · intro w'
        go_simp
        with_reducible rfl
      rotate_left
      · simp only [Act.put, List.setIfInBounds_toArray, List.set_cons_zero, List.set_cons_succ, i64_w, i32_w]
        rfl
      refine pure_ (i := 4) (N := some 41) (v := ?_) (a' := ?_) #[true, true, true, true, true, false, false, false, false, false, false, false, false, false, false] rfl rfl (by kernel_rfl) (fun _ _ _ h => h) (Or.inl ⟨by rfl, ?_⟩) ?_ ?_
      rotate_left
      · intro w'
        go_simp
        with_reducible rfl
      rotate_left
      · simp only [Act.put, List.setIfInBounds_toArray, List.set_cons_zero, List.set_cons_succ, i64_w, i32_w]
        rfl
      refine pure_ (i := 6) (N := some 43) (v := ?_) (a' := ?_) #[true, true, true, true, true, false, true, false, false, false, false, false, false, false, false] rfl rfl (by kernel_rfl) (fun _ _ _ h => h) (Or.inl ⟨by rfl, ?_⟩) ?_ ?_
      rotate_left
      · intro w'
        go_simp
        with_reducible rfl
      rotate_left
      · simp only [Act.put, List.setIfInBounds_toArray, List.set_cons_zero, List.set_cons_succ, i64_w, i32_w]
        rfl
      refine pure_ (i := 7) (N := some 44) (v := ?_) (a' := ?_) #[true, true, true, true, true, false, true, true, false, false, false, false, false, false, false] rfl rfl (by kernel_rfl) (fun _ _ _ h => h) (Or.inl ⟨by rfl, ?_⟩) ?_ ?_
      rotate_left
      · intro w'
        go_simp
        with_reducible rfl
      rotate_left
      · simp only [Act.put, List.setIfInBounds_toArray, List.set_cons_zero, List.set_cons_succ, i64_w, i32_w]
        rfl
      refine pure_ (i := 8) (N := some 45) (v := ?_) (a' := ?_) #[true, true, true, true, true, false, true, true, true, false, false, false, false, false, false] rfl rfl (by kernel_rfl) (fun _ _ _ h => h) (Or.inl ⟨by rfl, ?_⟩) ?_ ?_
      rotate_left
      · intro w'
        go_simp
        with_reducible rfl
      rotate_left
      · simp only [Act.put, List.setIfInBounds_toArray, List.set_cons_zero, List.set_cons_succ, i64_w, i32_w]
        rfl
      refine take_ (i := 5) (N := some 42) (a' := ?_) #[true, true, true, true, true, true, true, true, true, false, false, false, false, false, false] rfl rfl (by kernel_rfl) (fun _ _ _ h => h) (yields_num (g := gf) (o := 5) (n := o1) (by rfl) (.tmp 41) rfl rfl (fun w' hS => (HF.out.below hS HF.out.size).range5)) hHeld ?_ ?_
      rotate_left
      · simp only [Act.put, List.setIfInBounds_toArray, List.set_cons_zero, List.set_cons_succ, i64_w, i32_w]
        rfl
      refine take_ (i := 9) (N := some 46) (a' := ?_) #[true, true, true, true, true, true, true, true, true, true, false, false, false, false, false] rfl rfl (by kernel_rfl) (fun _ _ _ h => h) (yields_num (g := gf) (o := 5) (n := o1) (by rfl) (.tmp 45) rfl rfl (fun w' hS => (HF.out.below hS HF.out.size).range5)) hHeld ?_ ?_
      rotate_left
      · simp only [Act.put, List.setIfInBounds_toArray, List.set_cons_zero, List.set_cons_succ, i64_w, i32_w]
        rfl
      refine one_ (i := 10) (N := some 47) #[true, true, true, true, true, true, true, true, true, true, true, false, false, false, false] rfl rfl (by kernel_rfl) (by decide) (fun K hK => ?_)
      refine goes_ Try.func29 (by kernel_rfl) rfl #[numV o1, numV o1] (by rfl) rfl rfl (by simp only [List.map_toArray, List.map_cons, List.map_nil]; rfl) ?_
      with_reducible refine (HMU.out _).mono ?_
      rintro e v3 ⟨rfl, hb3⟩
      refine ⟨_, rfl, ?_⟩
      refine hK.out _ _ (hHeld.trans (hb3.mono hHeld.size)) (fun hHeld => ?_)
      clear hK K
      refine norm_ (a' := ?_) ?_ ?_
      rotate_left
      · show Act.put _ (some 47) _ = _
        simp only [Act.put, List.setIfInBounds_toArray, List.set_cons_zero, List.set_cons_succ, i64_w, i32_w]
        rfl
      refine one_ (i := 11) (N := some 48) #[true, true, true, true, true, true, true, true, true, true, true, true, false, false, false] rfl rfl (by kernel_rfl) (by decide) (fun K hK => ?_)
      refine goes_ Try.func28 (by kernel_rfl) rfl #[.pointer (some ⟨gf, 0, none⟩), wideV (o1 * o1)] (by rfl) rfl rfl (by simp only [List.map_toArray, List.map_cons, List.map_nil]; rfl) ?_
      with_reducible refine (HK2.out gf _ (HF.out.below hHeld HF.out.size)).mono ?_
      rintro e v4 ⟨rfl, hb4⟩
      refine ⟨_, rfl, ?_⟩
      refine hK.out _ _ (hHeld.trans (hb4.mono hHeld.size)) (fun hHeld => ?_)
      clear hK K
      refine norm_ (a' := ?_) ?_ ?_
      rotate_left
      · show Act.put _ (some 48) _ = _
        simp only [Act.put, List.setIfInBounds_toArray, List.set_cons_zero, List.set_cons_succ, i64_w, i32_w]
        rfl
      refine pure_ (i := 12) (N := some 49) (v := ?_) (a' := ?_) #[true, true, true, true, true, true, true, true, true, true, true, true, true, false, false] rfl rfl (by kernel_rfl) (fun _ _ _ h => h) (Or.inl ⟨by rfl, ?_⟩) ?_ ?_
      rotate_left
      · intro w'
        go_simp
        with_reducible rfl
      rotate_left
      · simp only [Act.put, List.setIfInBounds_toArray, List.set_cons_zero, List.set_cons_succ, i64_w, i32_w]
        rfl
      refine pure_ (i := 13) (N := some 50) (v := ?_) (a' := ?_) #[true, true, true, true, true, true, true, true, true, true, true, true, true, true, false] rfl rfl (by kernel_rfl) (fun _ _ _ h => h) (Or.inl ⟨by rfl, ?_⟩) ?_ ?_
      rotate_left
      · intro w'
        go_simp
        with_reducible rfl
      rotate_left
      · simp only [Act.put, List.setIfInBounds_toArray, List.set_cons_zero, List.set_cons_succ, i64_w, i32_w]
        rfl
      refine last_ (i := 14) (N := none) #[true, true, true, true, true, true, true, true, true, true, true, true, true, true, true] rfl rfl (by kernel_rfl) (by decide) (fun K hK => ?_)
      refine skip_square (HF.out.below hHeld HF.out.size) (by rfl) rfl (.tmp 50) (.tmp 48) rfl rfl rfl ?_
      intro v5 hA5 hT5
      refine hK.out _ _ ?_
      clear hK K
      refine done_ (by kernel_rfl) ?_
      replace HA := Aside0.mk (HA.out.on hHeld)
      replace HF := Aside0.mk (HF.out.on hHeld)
      replace HB := Aside0.mk (bl_on HB.out hHeld HB.out.size)
      replace HS := Aside0.mk (Nat.le_trans HS.out hHeld.size)
      clear hHeld hb3 hb4
      replace HA := Aside0.mk (HA.out.but hT5 (by have := HGE.out; omega))
      replace HF := Aside0.mk hA5
      replace HB := Aside0.mk (bl_but HB.out hT5 HB.out.size (by have := HGE.out; omega))
      replace HS := Aside0.mk (Nat.le_trans HS.out hT5.size)
      clear hA5 hT5
      go_wp2
      go_ret2
      exact ⟨gf, rfl, by have := HGE.out; omega, HF.out, HB.out⟩
end Go.Proofs.Ytojlhmmmiebbmaa
namespace Go.Proofs.Ytojlhmmmiebbmaa
open Go.RowKit Go.Proofs.Ytojlhmmmiebbmaa.Arr Go.Proofs.YtojlhmmmiebbmaaW.PrintWords Go.Proofs.YtojlhmmmiebbmaaW.PrintLast Go.Proofs.YtojlhmmmiebbmaaW.PrintMore
set_option linter.unusedVariables false
set_option linter.unusedSimpArgs false
attribute [local go_sem high] eqg_num eqg_num0
/-- how many points there are -/
def nN : Nat := 0xffffffff00000000ffffffffffffffffbce6faada7179e84f3b9cac2fc632551
theorem nN_lt : nN < N256 := by decide +kernel
theorem nN_pos : 0 < nN := by decide +kernel
theorem nN_one : 1 < nN := by decide +kernel
theorem nN_odd : nN % 2 = 1 := by decide +kernel
/-- the secret of the document's example -/
def secN : Nat := 0xc9afa9d845ba75166b5c215767b1d6934e50c3db36e89b127b8a622b120f6721
theorem secN_lt : secN < N256 := by decide +kernel
theorem num_lit (n a b c d : Nat) (h : wd0 n = a ∧ wd1 n = b ∧ wd2 n = c ∧ wd3 n = d) : Value.agg #[.int .u64 (a : Nat), .int .u64 (b : Nat), .int .u64 (c : Nat), .int .u64 (d : Nat)] = numV n := by
  obtain ⟨rfl, rfl, rfl, rfl⟩ := h
  rfl
/-- is a number from 1 to n - 1? -/
def mayN (a : Nat) : Bool := decide (a ≠ 0 ∧ a < nN)
theorem cmp_less (a b : Nat) : decide (cmpI a b < 0) = decide (a < b) := by
  unfold cmpI
  rw [Bool.eq_iff_iff]
  simp only [decide_eq_true_eq]
  split
  · omega
  · split <;> omega
set_option maxRecDepth 100000 in
set_option maxHeartbeats 8000000 in
theorem pn_calls (w : World) :
    Calls Try.prog 12 #[] w fun e w' => e = .returned (numV nN) ∧ Below w.heap.size w w' := by
  have e1 := num_lit nN 17562291160714782033 13611842547513532036 18446744073709551615 18446744069414584320 (by decide +kernel)
  obtain ⟨n, hn⟩ : ∃ n, n = nN := ⟨_, rfl⟩
  rw [← hn] at e1 ⊢
  clear hn
  go_enter Try.func12, Try.ntmps12
  go_upto_region 1 with (fail)
  refine wp_at (w2 := (World.alloc w (.cells (nw 0).toArray 24))) rfl ?_
  obtain ⟨x_0, e_0, h_0, b_0, s_0⟩ := new_num w 0
  rw [e_0]
  have HB : Aside0 (Below w.heap.size w x_0) := Aside0.mk b_0
  have HR : Aside0 (NAt x_0 (w.heap.size) 0) := Aside0.mk h_0
  have HS : Aside0 (w.heap.size + 1 ≤ x_0.heap.size) := Aside0.mk (Nat.le_of_eq s_0.symm)
  clear e_0 h_0 b_0 s_0
  obtain ⟨w1, hw_⟩ : ∃ x, x = x_0 := ⟨_, rfl⟩
  subst hw_
  go_wp2_with (first | ((with_reducible refine gate_st (y := .tmp 1) rfl ?_); refine st_num HR.out rfl _ _ rfl rfl e1 ?_; intro u2 hA2 hT2; replace HB := Aside0.mk (bl_but HB.out hT2 HB.out.size (by omega)); replace HR := Aside0.mk hA2; clear hA2 hT2))
  exact bodyPost_ret (v := numV n) (results_nat rfl rfl HR.out) rfl ⟨rfl, HB.out⟩
set_option maxRecDepth 100000 in
set_option maxHeartbeats 8000000 in
theorem rn_calls (w : World) :
    Calls Try.prog 19 #[] w fun e w' => e = .returned (numV nN) ∧ Below w.heap.size w w' := by
  have e1 := num_lit nN 17562291160714782033 13611842547513532036 18446744073709551615 18446744069414584320 (by decide +kernel)
  obtain ⟨n, hn⟩ : ∃ n, n = nN := ⟨_, rfl⟩
  rw [← hn] at e1 ⊢
  clear hn
  go_enter Try.func19, Try.ntmps19
  go_upto_region 1 with (fail)
  refine wp_at (w2 := (World.alloc w (.cells (nw 0).toArray 24))) rfl ?_
  obtain ⟨x_0, e_0, h_0, b_0, s_0⟩ := new_num w 0
  rw [e_0]
  have HB : Aside0 (Below w.heap.size w x_0) := Aside0.mk b_0
  have HR : Aside0 (NAt x_0 (w.heap.size) 0) := Aside0.mk h_0
  have HS : Aside0 (w.heap.size + 1 ≤ x_0.heap.size) := Aside0.mk (Nat.le_of_eq s_0.symm)
  clear e_0 h_0 b_0 s_0
  obtain ⟨w1, hw_⟩ : ∃ x, x = x_0 := ⟨_, rfl⟩
  subst hw_
  go_wp2_with (first | ((with_reducible refine gate_st (y := .tmp 1) rfl ?_); refine st_num HR.out rfl _ _ rfl rfl e1 ?_; intro u2 hA2 hT2; replace HB := Aside0.mk (bl_but HB.out hT2 HB.out.size (by omega)); replace HR := Aside0.mk hA2; clear hA2 hT2))
  exact bodyPost_ret (v := numV n) (results_nat rfl rfl HR.out) rfl ⟨rfl, HB.out⟩
set_option maxRecDepth 100000 in
set_option maxHeartbeats 8000000 in
theorem secret_calls (w : World) :
    Calls Try.prog 9 #[] w fun e w' => e = .returned (numV secN) ∧ Below w.heap.size w w' := by
  have e1 := num_lit secN 8902035550577321761 5643225679381699346 7736094919201248915 14533021268895757590 (by decide +kernel)
  obtain ⟨n, hn⟩ : ∃ n, n = secN := ⟨_, rfl⟩
  rw [← hn] at e1 ⊢
  clear hn
  go_enter Try.func9, Try.ntmps9
  go_upto_region 1 with (fail)
  refine wp_at (w2 := (World.alloc w (.cells (nw 0).toArray 24))) rfl ?_
  obtain ⟨x_0, e_0, h_0, b_0, s_0⟩ := new_num w 0
  rw [e_0]
  have HB : Aside0 (Below w.heap.size w x_0) := Aside0.mk b_0
  have HR : Aside0 (NAt x_0 (w.heap.size) 0) := Aside0.mk h_0
  have HS : Aside0 (w.heap.size + 1 ≤ x_0.heap.size) := Aside0.mk (Nat.le_of_eq s_0.symm)
  clear e_0 h_0 b_0 s_0
  obtain ⟨w1, hw_⟩ : ∃ x, x = x_0 := ⟨_, rfl⟩
  subst hw_
  go_wp2_with (first | ((with_reducible refine gate_st (y := .tmp 1) rfl ?_); refine st_num HR.out rfl _ _ rfl rfl e1 ?_; intro u2 hA2 hT2; replace HB := Aside0.mk (bl_but HB.out hT2 HB.out.size (by omega)); replace HR := Aside0.mk hA2; clear hA2 hT2))
  exact bodyPost_ret (v := numV n) (results_nat rfl rfl HR.out) rfl ⟨rfl, HB.out⟩
set_option maxRecDepth 100000 in
set_option maxHeartbeats 8000000 in
theorem may_calls (a : Nat) (w : World) (ha : a < N256) :
    Calls Try.prog 13 #[numV a] w fun e w' => e = .returned (.bool (mayN a)) ∧ Below w.heap.size w w' := by
  have HQ := fun w => neq_zero ha w
  have HC := Aside0.mk (fun u => cmp_calls (IsNum.mk ha) (IsNum.mk nN_lt) u)
  by_cases h0 : a = 0
  · rw [decide_eq_true h0] at HQ
    rw [show mayN a = false by rw [h0]; rfl]
    clear h0 ha HC
    go_enter Try.func13, Try.ntmps13
    go_upto_region 1 with (fail)
    refine wp_at (w2 := (World.alloc w (.cells (nw a).toArray 24))) rfl ?_
    obtain ⟨x_0, e_0, h_0, b_0, s_0⟩ := new_num w a
    rw [e_0]
    have HB : Aside0 (Below w.heap.size w x_0) := Aside0.mk b_0
    have HA : Aside0 (NAt x_0 (w.heap.size) a) := Aside0.mk h_0
    have HS : Aside0 (w.heap.size + 1 ≤ x_0.heap.size) := Aside0.mk (Nat.le_of_eq s_0.symm)
    clear e_0 h_0 b_0 s_0
    obtain ⟨w1, hw_⟩ : ∃ x, x = x_0 := ⟨_, rfl⟩
    subst hw_
    go_wp2
    refine start_ (n := 10) (S := fun w' => Below w1.heap.size w1 w') (ds := []) #[false, false, false, false, false, false, false, false, false, false] (by kernel_rfl) rfl rfl ((Below.refl _ _).drew) (fun hHeld => ?_)
    refine pure_ (i := 1) (N := some 4) (v := ?_) (a' := ?_) #[false, true, false, false, false, false, false, false, false, false] rfl rfl (by kernel_rfl) (fun _ _ _ h => h) (Or.inl ⟨by rfl, ?_⟩) ?_ ?_
    rotate_left
    · intro w'
      go_simp
      with_reducible rfl
    rotate_left
    · simp only [Act.put, List.setIfInBounds_toArray, List.set_cons_zero, List.set_cons_succ, i64_w, i32_w]
      rfl
    refine take_ (i := 0) (N := some 3) (a' := ?_) #[true, true, false, false, false, false, false, false, false, false] rfl rfl (by kernel_rfl) (fun _ _ _ h => h) (yields_num (g := w.heap.size) (o := 0) (n := a) (by rfl) (.tmp 1) rfl rfl (fun w' hS => (HA.out.below hS HA.out.size).range)) hHeld ?_ ?_
    rotate_left
    · simp only [Act.put, List.setIfInBounds_toArray, List.set_cons_zero, List.set_cons_succ, i64_w, i32_w]
      rfl
    refine pure_ (i := 2) (N := some 5) (v := ?_) (a' := ?_) #[true, true, true, false, false, false, false, false, false, false] rfl rfl (by kernel_rfl) (fun _ _ _ h => h) (Or.inl ⟨by rfl, ?_⟩) ?_ ?_
    rotate_left
    · intro w'
      go_simp
      with_reducible rfl
    rotate_left
    · simp only [Act.put, List.setIfInBounds_toArray, List.set_cons_zero, List.set_cons_succ, i64_w, i32_w]
      rfl
    refine pure_ (i := 3) (N := some 6) (v := ?_) (a' := ?_) #[true, true, true, true, false, false, false, false, false, false] rfl rfl (by kernel_rfl) (fun _ _ _ h => h) (Or.inl ⟨by rfl, ?_⟩) ?_ ?_
    rotate_left
    · intro w'
      go_simp
      with_reducible rfl
    rotate_left
    · simp only [Act.put, List.setIfInBounds_toArray, List.set_cons_zero, List.set_cons_succ, i64_w, i32_w]
      rfl
    refine pure_ (i := 4) (N := some 7) (v := undef) (a' := ?_) #[true, true, true, true, true, false, false, false, false, false] rfl rfl (by kernel_rfl) (fun _ _ _ h => h) (Or.inr ⟨by rfl, rfl⟩) ?_ ?_
    rotate_left
    · simp only [Act.put, List.setIfInBounds_toArray, List.set_cons_zero, List.set_cons_succ, i64_w, i32_w]
      rfl
    refine pure_ (i := 5) (N := some 8) (v := undef) (a' := ?_) #[true, true, true, true, true, true, false, false, false, false] rfl rfl (by kernel_rfl) (fun _ _ _ h => h) (Or.inr ⟨by rfl, rfl⟩) ?_ ?_
    rotate_left
    · simp only [Act.put, List.setIfInBounds_toArray, List.set_cons_zero, List.set_cons_succ, i64_w, i32_w]
      rfl
    refine pure_ (i := 6) (N := some 9) (v := undef) (a' := ?_) #[true, true, true, true, true, true, true, false, false, false] rfl rfl (by kernel_rfl) (fun _ _ _ h => h) (Or.inr ⟨by rfl, rfl⟩) ?_ ?_
    rotate_left
    · simp only [Act.put, List.setIfInBounds_toArray, List.set_cons_zero, List.set_cons_succ, i64_w, i32_w]
      rfl
    refine pure_ (i := 7) (N := some 10) (v := undef) (a' := ?_) #[true, true, true, true, true, true, true, true, false, false] rfl rfl (by kernel_rfl) (fun _ _ _ h => h) (Or.inr ⟨by rfl, rfl⟩) ?_ ?_
    rotate_left
    · simp only [Act.put, List.setIfInBounds_toArray, List.set_cons_zero, List.set_cons_succ, i64_w, i32_w]
      rfl
    refine pure_ (i := 8) (N := some 11) (v := ?_) (a' := ?_) #[true, true, true, true, true, true, true, true, true, false] rfl rfl (by kernel_rfl) (fun _ _ _ h => h) (Or.inl ⟨by rfl, ?_⟩) ?_ ?_
    rotate_left
    · intro w'
      go_simp
      with_reducible rfl
    rotate_left
    · simp only [Act.put, List.setIfInBounds_toArray, List.set_cons_zero, List.set_cons_succ, i64_w, i32_w]
      rfl
    refine pure_ (i := 9) (N := some 2) (v := ?_) (a' := ?_) #[true, true, true, true, true, true, true, true, true, true] rfl rfl (by kernel_rfl) (fun _ _ _ h => h) (Or.inl ⟨by rfl, ?_⟩) ?_ ?_
    rotate_left
    · intro w'
      go_simp
      with_reducible rfl
    rotate_left
    · simp only [Act.put, List.setIfInBounds_toArray, List.set_cons_zero, List.set_cons_succ, i64_w, i32_w]
      rfl
    refine done_ (by kernel_rfl) ?_
    go_wp2
    go_ret
    exact ⟨rfl, bl_on HB.out hHeld HB.out.size⟩
  · rw [decide_eq_false h0] at HQ
    have HM : Aside0 (decide (cmpI a nN < 0) = mayN a) := Aside0.mk (by rw [cmp_less]; unfold mayN; rw [Bool.eq_iff_iff]; first | done | (simp only [decide_eq_true_eq]; first | done | omega))
    generalize mayN a = D at *
    obtain ⟨n1, hn1⟩ : ∃ n, n = nN := ⟨_, rfl⟩
    have HPN := Aside0.mk (fun u => pn_calls u)
    rw [← hn1] at HM HC HPN
    obtain ⟨c, hc⟩ : ∃ c, c = cmpI a n1 := ⟨_, rfl⟩
    rw [← hc] at HC HM
    have hm := HM.out
    clear h0 ha hn1 hc HM
    go_enter Try.func13, Try.ntmps13
    go_upto_region 1 with (fail)
    refine wp_at (w2 := (World.alloc w (.cells (nw a).toArray 24))) rfl ?_
    obtain ⟨x_0, e_0, h_0, b_0, s_0⟩ := new_num w a
    rw [e_0]
    have HB : Aside0 (Below w.heap.size w x_0) := Aside0.mk b_0
    have HA : Aside0 (NAt x_0 (w.heap.size) a) := Aside0.mk h_0
    have HS : Aside0 (w.heap.size + 1 ≤ x_0.heap.size) := Aside0.mk (Nat.le_of_eq s_0.symm)
    clear e_0 h_0 b_0 s_0
    obtain ⟨w1, hw_⟩ : ∃ x, x = x_0 := ⟨_, rfl⟩
    subst hw_
    go_wp2
    refine start_ (n := 10) (S := fun w' => Below w1.heap.size w1 w') (ds := []) #[false, false, false, false, false, false, false, false, false, false] (by kernel_rfl) rfl rfl ((Below.refl _ _).drew) (fun hHeld => ?_)
    refine pure_ (i := 1) (N := some 4) (v := ?_) (a' := ?_) #[false, true, false, false, false, false, false, false, false, false] rfl rfl (by kernel_rfl) (fun _ _ _ h => h) (Or.inl ⟨by rfl, ?_⟩) ?_ ?_
    rotate_left
    · intro w'
      go_simp
      with_reducible rfl
    rotate_left
    · simp only [Act.put, List.setIfInBounds_toArray, List.set_cons_zero, List.set_cons_succ, i64_w, i32_w]
      rfl
    refine take_ (i := 0) (N := some 3) (a' := ?_) #[true, true, false, false, false, false, false, false, false, false] rfl rfl (by kernel_rfl) (fun _ _ _ h => h) (yields_num (g := w.heap.size) (o := 0) (n := a) (by rfl) (.tmp 1) rfl rfl (fun w' hS => (HA.out.below hS HA.out.size).range)) hHeld ?_ ?_
    rotate_left
    · simp only [Act.put, List.setIfInBounds_toArray, List.set_cons_zero, List.set_cons_succ, i64_w, i32_w]
      rfl
    refine pure_ (i := 2) (N := some 5) (v := ?_) (a' := ?_) #[true, true, true, false, false, false, false, false, false, false] rfl rfl (by kernel_rfl) (fun _ _ _ h => h) (Or.inl ⟨by rfl, ?_⟩) ?_ ?_
    rotate_left
    · intro w'
      go_simp
      with_reducible rfl
    rotate_left
    · simp only [Act.put, List.setIfInBounds_toArray, List.set_cons_zero, List.set_cons_succ, i64_w, i32_w]
      rfl
    refine pure_ (i := 3) (N := some 6) (v := ?_) (a' := ?_) #[true, true, true, true, false, false, false, false, false, false] rfl rfl (by kernel_rfl) (fun _ _ _ h => h) (Or.inl ⟨by rfl, ?_⟩) ?_ ?_
    rotate_left
    · intro w'
      go_simp
      with_reducible rfl
    rotate_left
    · simp only [Act.put, List.setIfInBounds_toArray, List.set_cons_zero, List.set_cons_succ, i64_w, i32_w]
      rfl
    refine take_ (i := 4) (N := some 7) (a' := ?_) #[true, true, true, true, true, false, false, false, false, false] rfl rfl (by kernel_rfl) (fun _ _ _ h => h) (yields_num (g := w.heap.size) (o := 0) (n := a) (by rfl) (.tmp 1) rfl rfl (fun w' hS => (HA.out.below hS HA.out.size).range)) hHeld ?_ ?_
    rotate_left
    · simp only [Act.put, List.setIfInBounds_toArray, List.set_cons_zero, List.set_cons_succ, i64_w, i32_w]
      rfl
    refine one_ (i := 5) (N := some 8) #[true, true, true, true, true, true, false, false, false, false] rfl rfl (by kernel_rfl) (by decide) (fun K hK => ?_)
    refine goes_ Try.func12 (by kernel_rfl) rfl #[] (by rfl) rfl rfl (by first | rfl | simp only [List.map_toArray, List.map_cons, List.map_nil]) ?_
    with_reducible refine (HPN.out _).mono ?_
    rintro e u1 ⟨rfl, hy1⟩
    refine ⟨_, rfl, ?_⟩
    refine hK.out _ _ (hHeld.trans (hy1.mono hHeld.size)) (fun hHeld => ?_)
    clear hK K
    refine norm_ (a' := ?_) ?_ ?_
    rotate_left
    · show Act.put _ (some 8) _ = _
      simp only [Act.put, List.setIfInBounds_toArray, List.set_cons_zero, List.set_cons_succ, i64_w, i32_w]
      rfl
    refine one_ (i := 6) (N := some 9) #[true, true, true, true, true, true, true, false, false, false] rfl rfl (by kernel_rfl) (by decide) (fun K hK => ?_)
    refine goes_ Try.func30 (by kernel_rfl) rfl #[numV a, numV n1] (by rfl) rfl rfl (by simp only [List.map_toArray, List.map_cons, List.map_nil]; rfl) ?_
    with_reducible refine (HC.out _).mono ?_
    rintro e u2 ⟨rfl, hy2⟩
    refine ⟨_, rfl, ?_⟩
    refine hK.out _ _ (hHeld.trans (hy2.mono hHeld.size)) (fun hHeld => ?_)
    clear hK K
    refine norm_ (a' := ?_) ?_ ?_
    rotate_left
    · show Act.put _ (some 9) _ = _
      simp only [Act.put, List.setIfInBounds_toArray, List.set_cons_zero, List.set_cons_succ, i64_w, i32_w]
      rfl
    refine pure_ (i := 7) (N := some 10) (v := ?_) (a' := ?_) #[true, true, true, true, true, true, true, true, false, false] rfl rfl (by kernel_rfl) (fun _ _ _ h => h) (Or.inl ⟨by rfl, ?_⟩) ?_ ?_
    rotate_left
    · intro w'
      go_simp
      with_reducible rfl
    rotate_left
    · simp only [Act.put, List.setIfInBounds_toArray, List.set_cons_zero, List.set_cons_succ, i64_w, i32_w]
      rfl
    refine pure_ (i := 8) (N := some 11) (v := ?_) (a' := ?_) #[true, true, true, true, true, true, true, true, true, false] rfl rfl (by kernel_rfl) (fun _ _ _ h => h) (Or.inl ⟨by rfl, ?_⟩) ?_ ?_
    rotate_left
    · intro w'
      go_simp
      with_reducible rfl
    rotate_left
    · simp only [Act.put, List.setIfInBounds_toArray, List.set_cons_zero, List.set_cons_succ, i64_w, i32_w]
      rfl
    refine pure_ (i := 9) (N := some 2) (v := ?_) (a' := ?_) #[true, true, true, true, true, true, true, true, true, true] rfl rfl (by kernel_rfl) (fun _ _ _ h => h) (Or.inl ⟨by rfl, ?_⟩) ?_ ?_
    rotate_left
    · intro w'
      go_simp
      with_reducible rfl
    rotate_left
    · simp only [Act.put, List.setIfInBounds_toArray, List.set_cons_zero, List.set_cons_succ, i64_w, i32_w]
      rfl
    refine done_ (by kernel_rfl) ?_
    go_wp2
    go_ret
    exact ⟨rfl, bl_on HB.out hHeld HB.out.size⟩
set_option maxRecDepth 100000 in
set_option maxHeartbeats 8000000 in
theorem rmay_calls (a : Nat) (w : World) (ha : a < N256) :
    Calls Try.prog 7 #[numV a] w fun e w' => e = .returned (.bool (mayN a)) ∧ Below w.heap.size w w' := by
  have HQ := fun w => neq_zero ha w
  have HC := Aside0.mk (fun u => rcmp_calls (IsNum.mk ha) (IsNum.mk nN_lt) u)
  by_cases h0 : a = 0
  · rw [decide_eq_true h0] at HQ
    rw [show mayN a = false by rw [h0]; rfl]
    clear h0 ha HC
    go_enter Try.func7, Try.ntmps7
    go_upto_region 1 with (fail)
    refine wp_at (w2 := (World.alloc w (.cells (nw a).toArray 24))) rfl ?_
    obtain ⟨x_0, e_0, h_0, b_0, s_0⟩ := new_num w a
    rw [e_0]
    have HB : Aside0 (Below w.heap.size w x_0) := Aside0.mk b_0
    have HA : Aside0 (NAt x_0 (w.heap.size) a) := Aside0.mk h_0
    have HS : Aside0 (w.heap.size + 1 ≤ x_0.heap.size) := Aside0.mk (Nat.le_of_eq s_0.symm)
    clear e_0 h_0 b_0 s_0
    obtain ⟨w1, hw_⟩ : ∃ x, x = x_0 := ⟨_, rfl⟩
    subst hw_
    go_wp2
    refine start_ (n := 10) (S := fun w' => Below w1.heap.size w1 w') (ds := []) #[false, false, false, false, false, false, false, false, false, false] (by kernel_rfl) rfl rfl ((Below.refl _ _).drew) (fun hHeld => ?_)
    refine pure_ (i := 1) (N := some 4) (v := ?_) (a' := ?_) #[false, true, false, false, false, false, false, false, false, false] rfl rfl (by kernel_rfl) (fun _ _ _ h => h) (Or.inl ⟨by rfl, ?_⟩) ?_ ?_
    rotate_left
    · intro w'
      go_simp
      with_reducible rfl
    rotate_left
    · simp only [Act.put, List.setIfInBounds_toArray, List.set_cons_zero, List.set_cons_succ, i64_w, i32_w]
      rfl
    refine take_ (i := 0) (N := some 3) (a' := ?_) #[true, true, false, false, false, false, false, false, false, false] rfl rfl (by kernel_rfl) (fun _ _ _ h => h) (yields_num (g := w.heap.size) (o := 0) (n := a) (by rfl) (.tmp 1) rfl rfl (fun w' hS => (HA.out.below hS HA.out.size).range)) hHeld ?_ ?_
    rotate_left
    · simp only [Act.put, List.setIfInBounds_toArray, List.set_cons_zero, List.set_cons_succ, i64_w, i32_w]
      rfl
    refine pure_ (i := 2) (N := some 5) (v := ?_) (a' := ?_) #[true, true, true, false, false, false, false, false, false, false] rfl rfl (by kernel_rfl) (fun _ _ _ h => h) (Or.inl ⟨by rfl, ?_⟩) ?_ ?_
    rotate_left
    · intro w'
      go_simp
      with_reducible rfl
    rotate_left
    · simp only [Act.put, List.setIfInBounds_toArray, List.set_cons_zero, List.set_cons_succ, i64_w, i32_w]
      rfl
    refine pure_ (i := 3) (N := some 6) (v := ?_) (a' := ?_) #[true, true, true, true, false, false, false, false, false, false] rfl rfl (by kernel_rfl) (fun _ _ _ h => h) (Or.inl ⟨by rfl, ?_⟩) ?_ ?_
    rotate_left
    · intro w'
      go_simp
      with_reducible rfl
    rotate_left
    · simp only [Act.put, List.setIfInBounds_toArray, List.set_cons_zero, List.set_cons_succ, i64_w, i32_w]
      rfl
    refine pure_ (i := 4) (N := some 7) (v := undef) (a' := ?_) #[true, true, true, true, true, false, false, false, false, false] rfl rfl (by kernel_rfl) (fun _ _ _ h => h) (Or.inr ⟨by rfl, rfl⟩) ?_ ?_
    rotate_left
    · simp only [Act.put, List.setIfInBounds_toArray, List.set_cons_zero, List.set_cons_succ, i64_w, i32_w]
      rfl
    refine pure_ (i := 5) (N := some 8) (v := undef) (a' := ?_) #[true, true, true, true, true, true, false, false, false, false] rfl rfl (by kernel_rfl) (fun _ _ _ h => h) (Or.inr ⟨by rfl, rfl⟩) ?_ ?_
    rotate_left
    · simp only [Act.put, List.setIfInBounds_toArray, List.set_cons_zero, List.set_cons_succ, i64_w, i32_w]
      rfl
    refine pure_ (i := 6) (N := some 9) (v := undef) (a' := ?_) #[true, true, true, true, true, true, true, false, false, false] rfl rfl (by kernel_rfl) (fun _ _ _ h => h) (Or.inr ⟨by rfl, rfl⟩) ?_ ?_
    rotate_left
    · simp only [Act.put, List.setIfInBounds_toArray, List.set_cons_zero, List.set_cons_succ, i64_w, i32_w]
      rfl
    refine pure_ (i := 7) (N := some 10) (v := undef) (a' := ?_) #[true, true, true, true, true, true, true, true, false, false] rfl rfl (by kernel_rfl) (fun _ _ _ h => h) (Or.inr ⟨by rfl, rfl⟩) ?_ ?_
    rotate_left
    · simp only [Act.put, List.setIfInBounds_toArray, List.set_cons_zero, List.set_cons_succ, i64_w, i32_w]
      rfl
    refine pure_ (i := 8) (N := some 11) (v := ?_) (a' := ?_) #[true, true, true, true, true, true, true, true, true, false] rfl rfl (by kernel_rfl) (fun _ _ _ h => h) (Or.inl ⟨by rfl, ?_⟩) ?_ ?_
    rotate_left
    · intro w'
      go_simp
      with_reducible rfl
    rotate_left
    · simp only [Act.put, List.setIfInBounds_toArray, List.set_cons_zero, List.set_cons_succ, i64_w, i32_w]
      rfl
    refine pure_ (i := 9) (N := some 2) (v := ?_) (a' := ?_) #[true, true, true, true, true, true, true, true, true, true] rfl rfl (by kernel_rfl) (fun _ _ _ h => h) (Or.inl ⟨by rfl, ?_⟩) ?_ ?_
    rotate_left
    · intro w'
      go_simp
      with_reducible rfl
    rotate_left
    · simp only [Act.put, List.setIfInBounds_toArray, List.set_cons_zero, List.set_cons_succ, i64_w, i32_w]
      rfl
    refine done_ (by kernel_rfl) ?_
    go_wp2
    go_ret
    exact ⟨rfl, bl_on HB.out hHeld HB.out.size⟩
  · rw [decide_eq_false h0] at HQ
    have HM : Aside0 (decide (cmpI a nN < 0) = mayN a) := Aside0.mk (by rw [cmp_less]; unfold mayN; rw [Bool.eq_iff_iff]; first | done | (simp only [decide_eq_true_eq]; first | done | omega))
    generalize mayN a = D at *
    obtain ⟨n1, hn1⟩ : ∃ n, n = nN := ⟨_, rfl⟩
    have HPN := Aside0.mk (fun u => rn_calls u)
    rw [← hn1] at HM HC HPN
    obtain ⟨c, hc⟩ : ∃ c, c = cmpI a n1 := ⟨_, rfl⟩
    rw [← hc] at HC HM
    have hm := HM.out
    clear h0 ha hn1 hc HM
    go_enter Try.func7, Try.ntmps7
    go_upto_region 1 with (fail)
    refine wp_at (w2 := (World.alloc w (.cells (nw a).toArray 24))) rfl ?_
    obtain ⟨x_0, e_0, h_0, b_0, s_0⟩ := new_num w a
    rw [e_0]
    have HB : Aside0 (Below w.heap.size w x_0) := Aside0.mk b_0
    have HA : Aside0 (NAt x_0 (w.heap.size) a) := Aside0.mk h_0
    have HS : Aside0 (w.heap.size + 1 ≤ x_0.heap.size) := Aside0.mk (Nat.le_of_eq s_0.symm)
    clear e_0 h_0 b_0 s_0
    obtain ⟨w1, hw_⟩ : ∃ x, x = x_0 := ⟨_, rfl⟩
    subst hw_
    go_wp2
    refine start_ (n := 10) (S := fun w' => Below w1.heap.size w1 w') (ds := []) #[false, false, false, false, false, false, false, false, false, false] (by kernel_rfl) rfl rfl ((Below.refl _ _).drew) (fun hHeld => ?_)
    refine pure_ (i := 1) (N := some 4) (v := ?_) (a' := ?_) #[false, true, false, false, false, false, false, false, false, false] rfl rfl (by kernel_rfl) (fun _ _ _ h => h) (Or.inl ⟨by rfl, ?_⟩) ?_ ?_
    rotate_left
    · intro w'
      go_simp
      with_reducible rfl
    rotate_left
    · simp only [Act.put, List.setIfInBounds_toArray, List.set_cons_zero, List.set_cons_succ, i64_w, i32_w]
      rfl
    refine take_ (i := 0) (N := some 3) (a' := ?_) #[true, true, false, false, false, false, false, false, false, false] rfl rfl (by kernel_rfl) (fun _ _ _ h => h) (yields_num (g := w.heap.size) (o := 0) (n := a) (by rfl) (.tmp 1) rfl rfl (fun w' hS => (HA.out.below hS HA.out.size).range)) hHeld ?_ ?_
    rotate_left
    · simp only [Act.put, List.setIfInBounds_toArray, List.set_cons_zero, List.set_cons_succ, i64_w, i32_w]
      rfl
    refine pure_ (i := 2) (N := some 5) (v := ?_) (a' := ?_) #[true, true, true, false, false, false, false, false, false, false] rfl rfl (by kernel_rfl) (fun _ _ _ h => h) (Or.inl ⟨by rfl, ?_⟩) ?_ ?_
    rotate_left
    · intro w'
      go_simp
      with_reducible rfl
    rotate_left
    · simp only [Act.put, List.setIfInBounds_toArray, List.set_cons_zero, List.set_cons_succ, i64_w, i32_w]
      rfl
    refine pure_ (i := 3) (N := some 6) (v := ?_) (a' := ?_) #[true, true, true, true, false, false, false, false, false, false] rfl rfl (by kernel_rfl) (fun _ _ _ h => h) (Or.inl ⟨by rfl, ?_⟩) ?_ ?_
    rotate_left
    · intro w'
      go_simp
      with_reducible rfl
    rotate_left
    · simp only [Act.put, List.setIfInBounds_toArray, List.set_cons_zero, List.set_cons_succ, i64_w, i32_w]
      rfl
    refine take_ (i := 4) (N := some 7) (a' := ?_) #[true, true, true, true, true, false, false, false, false, false] rfl rfl (by kernel_rfl) (fun _ _ _ h => h) (yields_num (g := w.heap.size) (o := 0) (n := a) (by rfl) (.tmp 1) rfl rfl (fun w' hS => (HA.out.below hS HA.out.size).range)) hHeld ?_ ?_
    rotate_left
    · simp only [Act.put, List.setIfInBounds_toArray, List.set_cons_zero, List.set_cons_succ, i64_w, i32_w]
      rfl
    refine one_ (i := 5) (N := some 8) #[true, true, true, true, true, true, false, false, false, false] rfl rfl (by kernel_rfl) (by decide) (fun K hK => ?_)
    refine goes_ Try.func19 (by kernel_rfl) rfl #[] (by rfl) rfl rfl (by first | rfl | simp only [List.map_toArray, List.map_cons, List.map_nil]) ?_
    with_reducible refine (HPN.out _).mono ?_
    rintro e u1 ⟨rfl, hy1⟩
    refine ⟨_, rfl, ?_⟩
    refine hK.out _ _ (hHeld.trans (hy1.mono hHeld.size)) (fun hHeld => ?_)
    clear hK K
    refine norm_ (a' := ?_) ?_ ?_
    rotate_left
    · show Act.put _ (some 8) _ = _
      simp only [Act.put, List.setIfInBounds_toArray, List.set_cons_zero, List.set_cons_succ, i64_w, i32_w]
      rfl
    refine one_ (i := 6) (N := some 9) #[true, true, true, true, true, true, true, false, false, false] rfl rfl (by kernel_rfl) (by decide) (fun K hK => ?_)
    refine goes_ Try.func18 (by kernel_rfl) rfl #[numV a, numV n1] (by rfl) rfl rfl (by simp only [List.map_toArray, List.map_cons, List.map_nil]; rfl) ?_
    with_reducible refine (HC.out _).mono ?_
    rintro e u2 ⟨rfl, hy2⟩
    refine ⟨_, rfl, ?_⟩
    refine hK.out _ _ (hHeld.trans (hy2.mono hHeld.size)) (fun hHeld => ?_)
    clear hK K
    refine norm_ (a' := ?_) ?_ ?_
    rotate_left
    · show Act.put _ (some 9) _ = _
      simp only [Act.put, List.setIfInBounds_toArray, List.set_cons_zero, List.set_cons_succ, i64_w, i32_w]
      rfl
    refine pure_ (i := 7) (N := some 10) (v := ?_) (a' := ?_) #[true, true, true, true, true, true, true, true, false, false] rfl rfl (by kernel_rfl) (fun _ _ _ h => h) (Or.inl ⟨by rfl, ?_⟩) ?_ ?_
    rotate_left
    · intro w'
      go_simp
      with_reducible rfl
    rotate_left
    · simp only [Act.put, List.setIfInBounds_toArray, List.set_cons_zero, List.set_cons_succ, i64_w, i32_w]
      rfl
    refine pure_ (i := 8) (N := some 11) (v := ?_) (a' := ?_) #[true, true, true, true, true, true, true, true, true, false] rfl rfl (by kernel_rfl) (fun _ _ _ h => h) (Or.inl ⟨by rfl, ?_⟩) ?_ ?_
    rotate_left
    · intro w'
      go_simp
      with_reducible rfl
    rotate_left
    · simp only [Act.put, List.setIfInBounds_toArray, List.set_cons_zero, List.set_cons_succ, i64_w, i32_w]
      rfl
    refine pure_ (i := 9) (N := some 2) (v := ?_) (a' := ?_) #[true, true, true, true, true, true, true, true, true, true] rfl rfl (by kernel_rfl) (fun _ _ _ h => h) (Or.inl ⟨by rfl, ?_⟩) ?_ ?_
    rotate_left
    · intro w'
      go_simp
      with_reducible rfl
    rotate_left
    · simp only [Act.put, List.setIfInBounds_toArray, List.set_cons_zero, List.set_cons_succ, i64_w, i32_w]
      rfl
    refine done_ (by kernel_rfl) ?_
    go_wp2
    go_ret
    exact ⟨rfl, bl_on HB.out hHeld HB.out.size⟩
end Go.Proofs.Ytojlhmmmiebbmaa
