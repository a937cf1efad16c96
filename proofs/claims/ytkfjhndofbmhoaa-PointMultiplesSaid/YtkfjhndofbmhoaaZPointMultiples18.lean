/- What the proof of PointMultiples is made of, part 18. -/
import Derived.Test.YtkfjhndofbmhoaaZPointMultiples14
import Derived.Test.YtkfjhndofbmhoaaZPointMultiples16
import Derived.Test.YtkfjhndofbmhoaaZPointMultiples17
import Derived.Test.YtkfjhndofbmhoaaZPointMultiples11
import Derived.Test.YtkfjhndofbmhoaaZPointMultiples19
import Derived.Test.YtkfjhndofbmhoaaZPointMultiplesh
namespace Go.Proofs.Ytkfjhndofbmhoaa
open Go.RowKit Go.Proofs.Ytkfjhndofbmhoaa.Arr Go.Proofs.YtkfjhndofbmhoaaW.PrintWords Go.Proofs.YtkfjhndofbmhoaaW.PrintLast Go.Proofs.YtkfjhndofbmhoaaW.PrintMore
set_option linter.unusedVariables false
set_option linter.unusedSimpArgs false
theorem lenN_two (m : Nat) (h : 1 < m) : ¬ ((lenN m : Int) < 2) := by
 have h2 : 2 ^ (lenN m - 1) ≤ m := by
  unfold lenN
  rw [if_neg (by omega), Nat.add_sub_cancel]
  exact Nat.log2_self_le (by omega)
 have h3 : m < 2 ^ (lenN m) := by
  unfold lenN
  rw [if_neg (by omega)]
  exact Nat.lt_log2_self
 intro hl
 have : lenN m ≤ 1 := by omega
 have h4 : (2 : Nat) ^ lenN m ≤ 2 ^ 1 := Nat.pow_le_pow_right (by decide) this
 omega
/-- Newton's rounds: what a lowest word is taken times to be 1 -/
def newt (a : Nat) : Nat → Nat
 | 0 => 1
 | k + 1 => newt a k * ((2 + 18446744073709551616 - a * newt a k % 18446744073709551616) % 18446744073709551616) % 18446744073709551616
theorem newt_lt (a : Nat) : ∀ k, newt a k < 18446744073709551616
 | 0 => show 1 < 18446744073709551616 by decide
 | k + 1 => Nat.mod_lt _ (by decide)
theorem newt_step (a k x y z : Nat) (hx : x = newt a k) (hy : y = a * x % 18446744073709551616) (hz : z = (2 + 18446744073709551616 - y) % 18446744073709551616) : x * z % 18446744073709551616 = newt a (k + 1) := by
 show _ = newt a k * ((2 + 18446744073709551616 - a * newt a k % 18446744073709551616) % 18446744073709551616) % 18446744073709551616
 rw [hz, hy, hx]
theorem wrap_mul (a b : Nat) : IntKind.u64.wrap ((a : Int) * (b : Int)) = ((a * b % 18446744073709551616 : Nat) : Int) := by
 rw [IntKind.wrap_u64, Int.natCast_emod, Int.natCast_mul]
 rfl
theorem wrap_two (y : Nat) (hy : y < 18446744073709551616) : IntKind.u64.wrap (2 - (y : Int)) = (((2 + 18446744073709551616 - y) % 18446744073709551616 : Nat) : Int) := by rw [IntKind.wrap_u64]; omega
theorem wrap_neg (y : Nat) (hy : y < 18446744073709551616) : IntKind.u64.wrap (-(y : Int)) = (((18446744073709551616 - y) % 18446744073709551616 : Nat) : Int) := by rw [IntKind.wrap_u64]; omega
def turnN (m : Nat) : Nat := (18446744073709551616 - newt (wd0 m) 6) % 18446744073709551616
theorem newt_dvd (a : Nat) (ha : a % 2 = 1) : ∀ k, k ≤ 6 → ((2 ^ (2 ^ k) : Nat) : Int) ∣ (a : Int) * (newt a k : Int) - 1
 | 0, _ => by
  show ((2 : Nat) : Int) ∣ (a : Int) * ((1 : Nat) : Int) - 1
  omega
 | k + 1, hk => by
  have ih := newt_dvd a ha k (by omega)
  have hx := newt_lt a k
  obtain ⟨x, ex⟩ : ∃ x, x = newt a k := ⟨_, rfl⟩
  rw [← ex] at ih hx
  have e1 : ∃ q : Int, ((newt a (k + 1) : Nat) : Int) = (x : Int) * (2 - (a : Int) * (x : Int)) + 18446744073709551616 * q := by
   have h1 := newt_step a k x _ _ ex rfl rfl
   rw [← h1]
   have h2 := wrap_mul a x
   have h3 := wrap_two (a * x % 18446744073709551616) (Nat.mod_lt _ (by decide))
   have h4 := wrap_mul x ((2 + 18446744073709551616 - a * x % 18446744073709551616) % 18446744073709551616)
   rw [← h4, ← h3, ← h2]
   rw [IntKind.wrap_u64, IntKind.wrap_u64, IntKind.wrap_u64]
   obtain ⟨y, hy⟩ : ∃ y : Int, y = (a : Int) * (x : Int) := ⟨_, rfl⟩
   rw [← hy]
   obtain ⟨y2, hy2⟩ : ∃ z : Int, z = (2 - y % 18446744073709551616) % 18446744073709551616 := ⟨_, rfl⟩
   rw [← hy2]
   have h5 : ∃ q : Int, y2 = 2 - y + 18446744073709551616 * q := ⟨(y2 - (2 - y)) / 18446744073709551616, by omega⟩
   obtain ⟨q, h5⟩ := h5
   have h6 := Int.emod_add_mul_ediv ((x : Int) * y2) 18446744073709551616
   refine ⟨(x : Int) * q - (x : Int) * y2 / 18446744073709551616, ?_⟩
   have h7 : (x : Int) * y2 = (x : Int) * (2 - y) + 18446744073709551616 * ((x : Int) * q) := by rw [h5, Int.mul_add, Int.mul_left_comm]
   generalize (x : Int) * y2 = P at *
   generalize (x : Int) * (2 - y) = R at *
   generalize (x : Int) * q = S at *
   omega
  obtain ⟨q, e1⟩ := e1
  obtain ⟨c, hc⟩ := ih
  rw [e1]
  have hp : ((2 ^ (2 ^ (k + 1)) : Nat) : Int) = ((2 ^ (2 ^ k) : Nat) : Int) * ((2 ^ (2 ^ k) : Nat) : Int) := by
   rw [← Int.natCast_mul, ← Nat.pow_add, Nat.pow_succ 2 k, Nat.mul_two]
  have h64 : ((2 ^ (2 ^ (k + 1)) : Nat) : Int) ∣ 18446744073709551616 := by
   have h1 : (2 : Nat) ^ (2 ^ (k + 1)) ∣ 2 ^ 64 := Nat.pow_dvd_pow 2 (by
    have : 2 ^ (k + 1) ≤ 2 ^ 6 := Nat.pow_le_pow_right (by decide) hk
    exact this)
   have h2 := Int.natCast_dvd_natCast.2 h1
   exact h2
  have hm : (a : Int) * ((x : Int) * (2 - (a : Int) * (x : Int)) + 18446744073709551616 * q) - 1 = - (((a : Int) * (x : Int) - 1) * ((a : Int) * (x : Int) - 1)) + 18446744073709551616 * ((a : Int) * q) := by
   rw [Int.mul_add, ← Int.mul_assoc, Int.mul_left_comm (a : Int) 18446744073709551616 q]
   generalize (a : Int) * (x : Int) = y
   rw [Int.mul_sub, Int.mul_sub, Int.sub_mul]
   omega
  rw [hm]
  refine Int.dvd_add ?_ ?_
  ·rw [hc, hp]
   refine Int.dvd_neg.2 ⟨c * c, ?_⟩
   rw [Int.mul_assoc, Int.mul_left_comm c, Int.mul_assoc]
  ·exact Int.dvd_trans h64 (Int.dvd_mul_right _ _)
/-- the turn: with it m takes a lowest word to 0 -/
theorem turn_ok (m : Nat) (hm : m % 2 = 1) : turnN m < 18446744073709551616 ∧ (turnN m * wd0 m + 1) % 18446744073709551616 = 0 := by
 refine ⟨Nat.mod_lt _ (by decide), ?_⟩
 have h1 := newt_dvd (wd0 m) (by rw [wd0_even]; exact hm) 6 (Nat.le_refl _)
 have hx := newt_lt (wd0 m) 6
 unfold turnN
 generalize newt (wd0 m) 6 = x at *
 obtain ⟨c, hc⟩ := h1
 have hp : ((2 ^ (2 ^ 6) : Nat) : Int) = 18446744073709551616 := by decide
 rw [hp] at hc
 generalize wd0 m = a at *
 by_cases h0 : x = 0
 ·subst h0
  simp at hc
  omega
 ·rw [Nat.mod_eq_of_lt (a := 18446744073709551616 - x) (by omega)]
  have h2 : (((18446744073709551616 - x) * a + 1 : Nat) : Int) = 18446744073709551616 * ((a : Int) - c) := by
   rw [Int.natCast_add, Int.natCast_mul, Int.natCast_sub (by omega)]
   have h3 : (((18446744073709551616 : Nat) : Int) - (x : Int)) * (a : Int) = 18446744073709551616 * (a : Int) - (a : Int) * (x : Int) := by rw [Int.sub_mul, Int.mul_comm (x : Int)]; rfl
   rw [h3, Int.mul_sub]
   omega
  omega
section
variable {ops : Array Oper} {rest : List Oper} {op : Oper} {a : Act} {w : World} {Q : Exit → Act → World → Prop}
theorem ld_numx {g o n : Nat} (h : w.rangeAt g o (nw n)) (hgd : op.guard = none) (x : Operand) (ho : op.op = .load 24 x) (hx : a.eval x = .pointer (some ⟨g, o, none⟩))
  (k : wpList Try.prog ops Q rest (a.put op.dst (.agg #[.int .u64 (wd0 n : Nat), .int .u64 (wd1 n : Nat), .int .u64 (wd2 n : Nat), .int .u64 (wd3 n : Nat)])) w) : wpList Try.prog ops Q (op :: rest) a w := ld_num h hgd x ho hx k
theorem FAt.setO {g m t o s : Nat} (h : FAt w g m t o s) (c : Nat) : FAt (w.setCells g 5 (nw c)) g m t c s := by
 have h1 := (((Row.set h 5 (.int .u64 (wd0 c : Nat))).set 6 (.int .u64 (wd1 c : Nat))).set 7 (.int .u64 (wd2 c : Nat))).set 8 (.int .u64 (wd3 c : Nat))
 exact h1
theorem FAt.setS {g m t o s : Nat} (h : FAt w g m t o s) (c : Nat) : FAt (w.setCells g 9 (nw c)) g m t o c := by
 have h1 := (((Row.set h 9 (.int .u64 (wd0 c : Nat))).set 10 (.int .u64 (wd1 c : Nat))).set 11 (.int .u64 (wd2 c : Nat))).set 12 (.int .u64 (wd3 c : Nat))
 exact h1
theorem st_one {g m t o s n : Nat} (h : FAt w g m t o s) (hgd : op.guard = none) (x y : Operand) (ho : op.op = .store 24 x y) (hx : a.eval x = .pointer (some ⟨g, 5, none⟩)) (hy : a.eval y = numV n)
  (k : ∀ w', FAt w' g m t n s → But w.heap.size g w w' → wpList Try.prog ops Q rest (a.put op.dst undef) w') : wpList Try.prog ops Q (op :: rest) a w :=
 wpList_store_mid hgd 24 x y ho g 5 (nw n).toArray hx hy (Row.there h 5 4 (show (5 : Nat) + 4 ≤ 13 from by decide)) rfl (all_oneCell_toArray (nw_one n)) (k _ (h.setO n) (but_cells _ _ _ (But.of (Below.refl _ _))))
theorem skip_square {K : Act → World → Prop} {g m t o s n : Nat} (h : FAt w g m t o s) (hw : Region.wanted op (yielded ops a.tmps) = true) (hN : op.dst = none) (x y : Operand) (ho : op.op = .store 24 x y) (hx : a.eval x = .pointer (some ⟨g, 9, none⟩)) (hy : a.eval y = numV n)
  (k : ∀ w', FAt w' g m t o n → But w.heap.size g w w' → K a w') : if Region.wanted op (yielded ops a.tmps) = true then Oper.wp Try.prog op a w K Q else K (a.put none undef) w := by
 rw [if_pos hw]
 refine wp_store_mid 24 x y ho g 9 (nw n).toArray hx hy (Row.there h 9 4 (show (9 : Nat) + 4 ≤ 13 from by decide)) rfl (all_oneCell_toArray (nw_one n)) ?_
 rw [hN]
 exact k _ (h.setS n) (but_cells _ _ _ (But.of (Below.refl _ _)))
end
theorem new_field (w : World) (m t : Nat) : ∃ w1, w.alloc (.cells (nw m ++ ([Value.int .u64 (t : Nat)] ++ (nw 0 ++ nw 0))).toArray 79) = w1 ∧ FAt w1 w.heap.size m t 0 0 ∧ Below w.heap.size w w1 :=
 ⟨_, rfl, Row.new w _ _, below_alloc (Below.refl _ _) _⟩
theorem sq_512 (m : Nat) : (N256 % m) * (N256 % m) % m = N512 % m := by
 rw [← Nat.mul_mod]
 have e : N256 * N256 = N512 := by unfold N256 N512; decide
 rw [e]
theorem n256_lt512 : N256 < N512 := by unfold N256 N512; omega
theorem inc6 {t : Nat} (h : t < 6) : wrap64 ((t : Int) + 1) = (t : Int) + 1 := by unfold wrap64; omega
theorem meas6 {t : Nat} (h : t < 6) : 6 - (intOf (.int .i64 ((t : Int) + 1))).toNat < 6 - (intOf (.int .i64 (t : Int))).toNat := by
 show 6 - ((t : Int) + 1).toNat < 6 - (t : Int).toNat
 omega
set_option maxRecDepth 100000 in
set_option maxHeartbeats 8000000 in
/-- field.New -/
theorem fnew_calls (m : Nat) (w : World) (hm : m < N256) (hm1 : m % 2 = 1) (h1 : 1 < m) :
  Calls Try.prog 50 #[numV m] w fun e w' => ∃ gf, e = .returned (.tuple #[.pointer (some ⟨gf, 0, none⟩), .nilIface]) ∧ w.heap.size ≤ gf ∧ FAt w' gf m (turnN m) (N256 % m) (N512 % m) ∧ Below w.heap.size w w' := by
 have HL := Aside0.mk (fun u => len_calls (IsNum.mk hm) u)
 obtain ⟨b, hb⟩ : ∃ b, b = m % 2 := ⟨_, rfl⟩
 have f1 := and_bit (wd0 m) b (by rw [hb, wd0_even]) (wd0_lt m)
 have d1 := b_odd (b := b) (by omega)
 have d2 := decide_eq_false (lenN_two m h1)
 generalize lenN m = l at *
 have h0 : 0 < m := by omega
 obtain ⟨t, ht⟩ : ∃ t, t = turnN m := ⟨_, rfl⟩
 have HK := Aside0.mk (fun (g o1 : Nat) (u : World) (h : FAt u g m t o1 0) => fcut_calls N256 u h hm h0 n256_lt512)
 obtain ⟨o1, ho1⟩ : ∃ x, x = N256 % m := ⟨_, rfl⟩
 obtain ⟨s1, hs1⟩ : ∃ x, x = N512 % m := ⟨_, rfl⟩
 have hoN : o1 < N256 := Nat.lt_trans (by rw [ho1]; exact Nat.mod_lt _ h0) hm
 have HMU := Aside0.mk (fun u => mul_calls (IsNum.mk hoN) (IsNum.mk hoN) u)
 have HK2 := Aside0.mk (fun (g : Nat) (u : World) (h : FAt u g m t o1 0) => fcut_calls (o1 * o1) u h hm h0 (mul_lt512 hoN hoN))
 have hsq := sq_512 m
 rw [← ho1, ← hs1] at hsq
 rw [hsq] at HK2
 rw [← ho1] at HK
 obtain ⟨a, ha⟩ : ∃ a, a = wd0 m := ⟨_, rfl⟩
 have HT : Aside0 (t = (18446744073709551616 - newt a 6) % 18446744073709551616) := Aside0.mk (by rw [ht, ha]; rfl)
 rw [← ht, ← ho1, ← hs1]
 have HA0 := Aside0.mk ha
 clear hb h1 hm1 hm h0 ht ho1 hs1 hoN hsq ha
 rw [numV_def m]
 go_enter Try.func50, Try.ntmps50
 go_upto_region 1 with (fail)
 refine wp_at (w2 := (World.alloc w (.cells (nw m).toArray 24))) rfl ?_
 obtain ⟨x_0, e_0, h_0, b_0, s_0⟩ := new_num w m
 rw [e_0]
 have HB : Aside0 (Below w.heap.size w x_0) := Aside0.mk b_0
 have HA : Aside0 (NAt x_0 (w.heap.size) m) := Aside0.mk h_0
 have HS : Aside0 (w.heap.size + 1 ≤ x_0.heap.size) := Aside0.mk (Nat.le_of_eq s_0.symm)
 clear e_0 h_0 b_0 s_0
 obtain ⟨w1, hw_⟩ : ∃ x, x = x_0 := ⟨_, rfl⟩
 subst hw_
 obtain ⟨ca0, ca1, ca2, ca3⟩ := HA.out.cell
 go_wp2_with fail
 refine (HL.out _).mono ?_
 rintro e u1 ⟨rfl, hb1⟩
 clear ca0 ca1 ca2 ca3 f1
 replace HA := Aside0.mk (HA.out.on hb1)
 replace HB := Aside0.mk (bl_on HB.out hb1 HB.out.size)
 replace HS := Aside0.mk (Nat.le_trans HS.out hb1.size)
 clear hb1 HL
 go_wp2
 clear d1 d2
 go_loopw [4, 16] (fun vx vi wr => ∃ k : Nat, k ≤ 6 ∧ vi = .int .i64 (k : Int) ∧ vx = .int .u64 ((newt a k : Nat) : Int) ∧ Aside0 (NAt wr w.heap.size m) ∧ Aside0 (Below w.heap.size w wr) ∧ Aside0 (w.heap.size + 1 ≤ wr.heap.size))
  (fun _ vi _ => 6 - (intOf vi).toNat)
 case atStart => exact ⟨0, Nat.zero_le _, rfl, rfl, HA, HB, HS⟩
 case round =>
  clear HA HB HS
  obtain ⟨k, hk, rfl, rfl, HA, HB, HS⟩ := hrel
  obtain ⟨u0, hu0⟩ : ∃ x, x = wr := ⟨_, rfl⟩
  subst hu0
  by_cases hlt : k < 6
  ·have t1 : (k : Int) < 6 := by omega
   obtain ⟨x, hx⟩ : ∃ x, x = newt a k := ⟨_, rfl⟩
   obtain ⟨y, hy⟩ : ∃ y, y = a * x % 18446744073709551616 := ⟨_, rfl⟩
   obtain ⟨z, hz⟩ : ∃ z, z = (2 + 18446744073709551616 - y) % 18446744073709551616 := ⟨_, rfl⟩
   have hst := newt_step a k x y z hx hy hz
   have q1 := wrap_mul a x
   rw [← hy] at q1
   have q2 := wrap_two y (by rw [hy]; exact Nat.mod_lt _ (by decide))
   rw [← hz] at q2
   have q3 := wrap_mul x z
   rw [hst] at q3
   obtain ⟨x2, hx2⟩ : ∃ x2, x2 = newt a (k + 1) := ⟨_, rfl⟩
   rw [← hx2] at q3
   have HX2 := Aside0.mk hx2
   rw [← hx]
   have ca0 := HA.out.cell.1
   rw [← HA0.out] at ca0
   have HLT := Aside0.mk hlt
   have q4 := inc6 hlt
   clear hx hy hz hst hlt hk hx2
   go_wp2
   refine ⟨⟨k + 1, HLT.out, ?_, ?_, HA, HB, HS⟩, ?_⟩
   ·(try rw [q4]); rw [Int.natCast_add]; rfl
   ·(try rw [q3]); rw [HX2.out]
   ·(try rw [q4]); exact meas6 HLT.out
  ·have hk6 : k = 6 := by omega
   subst hk6
   have hxl := newt_lt a 6
   obtain ⟨x, hx⟩ : ∃ x, x = newt a 6 := ⟨_, rfl⟩
   rw [← hx] at hxl HT
   rw [← hx]
   have q1 := wrap_neg x hxl
   rw [← HT.out] at q1
   rw [show ((6 : Nat) : Int) = 6 from rfl]
   clear hk hlt hxl hx HT
   go_upto_region 9 with (first | ((with_reducible refine gate_dst (N := 26) rfl ?_); refine ld_numx (HA.out.range) rfl _ rfl rfl ?_))
   refine wp_at (w2 := World.alloc u0 (.cells (nw m ++ ([Value.int .u64 (t : Nat)] ++ (nw 0 ++ nw 0))).toArray 79)) rfl ?_
   obtain ⟨u2, e2, hF, hb2⟩ := new_field u0 m t
   rw [e2]
   have HGE : Aside0 (w.heap.size + 1 ≤ u0.heap.size) := Aside0.mk HS.out
   have HF := Aside0.mk hF
   replace HA := Aside0.mk (HA.out.on hb2)
   replace HB := Aside0.mk (bl_on HB.out hb2 HB.out.size)
   replace HS := Aside0.mk (Nat.le_trans HS.out hb2.size)
   clear e2 hF hb2 q1
   generalize u0.heap.size = gf at *
   go_upto_region 10 with (first | ((with_reducible refine gate_callee (f := 69) rfl ?_); refine goesL_ (some 34) rfl rfl Try.func69 (by kernel_rfl) rfl #[.pointer (some ⟨gf, 0, none⟩), wideV N256] rfl (by (try simp only [List.map_toArray, List.map_cons, List.map_nil]); first | done | rfl) ?_; (with_reducible refine (HK.out gf 0 _ HF.out).mono ?_); rintro e v1 ⟨rfl, hb1⟩; replace HA := Aside0.mk (HA.out.on hb1); replace HF := Aside0.mk (HF.out.on hb1); replace HB := Aside0.mk (bl_on HB.out hb1 HB.out.size); replace HS := Aside0.mk (Nat.le_trans HS.out hb1.size); clear hb1; refine ⟨_, rfl, ?_⟩) | ((with_reducible refine gate_st (y := .tmp 34) rfl ?_); refine st_one HF.out rfl _ _ rfl rfl rfl ?_; intro v2 hA2 hT2; replace HA := Aside0.mk (HA.out.but hT2 (by have := HGE.out; omega)); replace HF := Aside0.mk hA2; replace HB := Aside0.mk (bl_but HB.out hT2 HB.out.size (by have := HGE.out; omega)); replace HS := Aside0.mk (Nat.le_trans HS.out hT2.size); clear hA2 hT2))
   refine start_ (n := 15) (S := fun w' => Below v2.heap.size v2 w') (ds := [14]) (bs 15 0) (by kernel_rfl) rfl rfl ((Below.refl _ _).drew) (fun hHeld => ?_)
   refine pu_ 0 37 (bs 15 1) ?_ ?_ ?_ ?_ ?_
   rotate_left
   ·intro w'
    go_simp
    with_reducible rfl
   rotate_left
   ·simp only [aS, i64_w, i32_w]
    rfl
   refine pu_ 1 38 (bs 15 3) ?_ ?_ ?_ ?_ ?_
   rotate_left
   ·intro w'
    go_simp
    with_reducible rfl
   rotate_left
   ·simp only [aS, i64_w, i32_w]
    rfl
   refine pu_ 2 39 (bs 15 7) ?_ ?_ ?_ ?_ ?_
   rotate_left
   ·intro w'
    go_simp
    with_reducible rfl
   rotate_left
   ·simp only [aS, i64_w, i32_w]
    rfl
   refine pu_ 3 40 (bs 15 15) ?_ ?_ ?_ ?_ ?_
   rotate_left
   ·intro w'
    go_simp
    with_reducible rfl
   rotate_left
   ·simp only [aS, i64_w, i32_w]
    rfl
   refine pu_ 4 41 (bs 15 31) ?_ ?_ ?_ ?_ ?_
   rotate_left
   ·intro w'
    go_simp
    with_reducible rfl
   rotate_left
   ·simp only [aS, i64_w, i32_w]
    rfl
   refine pu_ 6 43 (bs 15 95) ?_ ?_ ?_ ?_ ?_
   rotate_left
   ·intro w'
    go_simp
    with_reducible rfl
   rotate_left
   ·simp only [aS, i64_w, i32_w]
    rfl
   refine pu_ 7 44 (bs 15 223) ?_ ?_ ?_ ?_ ?_
   rotate_left
   ·intro w'
    go_simp
    with_reducible rfl
   rotate_left
   ·simp only [aS, i64_w, i32_w]
    rfl
   refine pu_ 8 45 (bs 15 479) ?_ ?_ ?_ ?_ ?_
   rotate_left
   ·intro w'
    go_simp
    with_reducible rfl
   rotate_left
   ·simp only [aS, i64_w, i32_w]
    rfl
   refine take_ (i := 5) (N := some 42) (a' := ?_) (bs 15 511) rfl rfl (by kernel_rfl) (fun _ _ _ h => h) (yields_num (g := gf) (o := 5) (n := o1) (by rfl) (.tmp 41) rfl rfl (fun w' hS => (HF.out.below hS HF.out.size).range5)) hHeld ?_ ?_
   rotate_left
   ·simp only [aS, i64_w, i32_w]
    rfl
   refine take_ (i := 9) (N := some 46) (a' := ?_) (bs 15 1023) rfl rfl (by kernel_rfl) (fun _ _ _ h => h) (yields_num (g := gf) (o := 5) (n := o1) (by rfl) (.tmp 45) rfl rfl (fun w' hS => (HF.out.below hS HF.out.size).range5)) hHeld ?_ ?_
   rotate_left
   ·simp only [aS, i64_w, i32_w]
    rfl
   refine on1_ 10 (some 47) (bs 15 2047) rfl fun K hK => ?_
   refine gs_ Try.func70 #[numV o1, numV o1] rfl ?_
   with_reducible refine (HMU.out _).mono ?_
   rintro e v3 ⟨rfl, hb3⟩
   refine ⟨_, rfl, ?_⟩
   refine hK.out _ _ (hHeld.trans (hb3.mono hHeld.size)) (fun hHeld => ?_)
   clear hK K
   refine nm_ (some 47) ?_
   refine on1_ 11 (some 48) (bs 15 4095) rfl fun K hK => ?_
   refine gs_ Try.func69 #[.pointer (some ⟨gf, 0, none⟩), wideV (o1 * o1)] rfl ?_
   with_reducible refine (HK2.out gf _ (HF.out.below hHeld HF.out.size)).mono ?_
   rintro e v4 ⟨rfl, hb4⟩
   refine ⟨_, rfl, ?_⟩
   refine hK.out _ _ (hHeld.trans (hb4.mono hHeld.size)) (fun hHeld => ?_)
   clear hK K
   refine nm_ (some 48) ?_
   refine pu_ 12 49 (bs 15 8191) ?_ ?_ ?_ ?_ ?_
   rotate_left
   ·intro w'
    go_simp
    with_reducible rfl
   rotate_left
   ·simp only [aS, i64_w, i32_w]
    rfl
   refine pu_ 13 50 (bs 15 16383) ?_ ?_ ?_ ?_ ?_
   rotate_left
   ·intro w'
    go_simp
    with_reducible rfl
   rotate_left
   ·simp only [aS, i64_w, i32_w]
    rfl
   refine last_ (i := 14) (N := none) (bs 15 32767) rfl rfl (by kernel_rfl) (by decide) (fun K hK => ?_)
   refine skip_square (HF.out.below hHeld HF.out.size) (by rfl) rfl (.tmp 50) (.tmp 48) rfl rfl rfl ?_
   intro v5 hA5 hT5
   refine hK.out _ _ ?_
   clear hK K
   refine done_ (by kernel_rfl) ?_
   replace HA := Aside0.mk (HA.out.on hHeld)
   replace HF := Aside0.mk (HF.out.on hHeld)
   replace HB := Aside0.mk (bl_on HB.out hHeld HB.out.size)
   replace HS := Aside0.mk (Nat.le_trans HS.out hHeld.size)
   clear hHeld hb3 hb4
   replace HA := Aside0.mk (HA.out.but hT5 (by have := HGE.out; omega))
   replace HF := Aside0.mk hA5
   replace HB := Aside0.mk (bl_but HB.out hT5 HB.out.size (by have := HGE.out; omega))
   replace HS := Aside0.mk (Nat.le_trans HS.out hT5.size)
   clear hA5 hT5
   go_wp2
   go_ret2
   exact ⟨gf, rfl, by have := HGE.out; omega, HF.out, HB.out⟩
end Go.Proofs.Ytkfjhndofbmhoaa
namespace Go.Proofs.Ytkfjhndofbmhoaa
open Go.RowKit Go.Proofs.Ytkfjhndofbmhoaa.Arr Go.Proofs.YtkfjhndofbmhoaaW.PrintWords Go.Proofs.YtkfjhndofbmhoaaW.PrintLast Go.Proofs.YtkfjhndofbmhoaaW.PrintMore
set_option linter.unusedVariables false
set_option linter.unusedSimpArgs false
theorem step_eq (x y a b : Nat) (l h : Int) (hl : 0 ≤ l) (hl2 : l < 18446744073709551616) (e : (x : Int) * (y : Int) + (a : Int) + (b : Int) = l + 18446744073709551616 * h) :
  l = ((((x * y + a + b) % 18446744073709551616 : Nat)) : Int) ∧ h = ((((x * y + a + b) / 18446744073709551616 : Nat)) : Int) := by
 rw [← Int.natCast_mul] at e
 generalize x * y = p at *
 omega
set_option maxRecDepth 100000 in
set_option maxHeartbeats 4000000 in
/-- field.step -/
theorem step_calls (x y a b : Nat) (hx : x < 18446744073709551616) (hy : y < 18446744073709551616) (ha : a < 18446744073709551616) (hb : b < 18446744073709551616) (w : World) :
  Calls Try.prog 80 #[.int .u64 (x : Nat), .int .u64 (y : Nat), .int .u64 (a : Nat), .int .u64 (b : Nat)] w fun e w' => e = .returned (.tuple #[.int .u64 (((x * y + a + b) % 18446744073709551616 : Nat) : Int), .int .u64 (((x * y + a + b) / 18446744073709551616 : Nat) : Int)]) ∧ w = w' := by
 obtain ⟨h, l, l1, c1, h1, l2, c2, h2, hm, e1, e2, e3, e4, b1, b2, b3, b4, hk⟩ := round_facts (x : Int) (y : Int) (a : Int) (b : Int) (by omega) (by omega) (by omega) (by omega) (by omega) (by omega) (by omega) (by omega)
 obtain ⟨r1, r2⟩ := step_eq x y a b l2 h2 b1 b2 hk.out
 rw [← r1, ← r2]
 clear r1 r2 b1 b2 b3 b4 hx hy ha hb hk
 go_enter Try.func80, Try.ntmps80
 go_wp2_with (first | ((with_reducible refine gate_callee (f := 78) rfl ?_); refine goesL_ (some 16) rfl rfl Try.func78 (by kernel_rfl) rfl #[.int .u64 (x : Nat), .int .u64 (y : Nat)] rfl (by (try simp only [List.map_toArray, List.map_cons, List.map_nil]); first | done | rfl) ?_; (with_reducible refine (hm.out _).mono ?_); rintro e w2 ⟨rfl, rfl⟩; refine ⟨_, rfl, ?_⟩))
 go_ret2
 exact ⟨rfl, rfl⟩
/-- block g is six words -/
def tw (t0 t1 t2 t3 t4 t5 : Nat) : List Value := [.int .u64 (t0 : Nat), .int .u64 (t1 : Nat), .int .u64 (t2 : Nat), .int .u64 (t3 : Nat), .int .u64 (t4 : Nat), .int .u64 (t5 : Nat)]
def TAt (w : World) (g t0 t1 t2 t3 t4 t5 : Nat) : Prop := Row 99 w g (tw t0 t1 t2 t3 t4 t5)
section
variable {w w' : World} {g t0 t1 t2 t3 t4 t5 : Nat}
theorem TAt.size (h : TAt w g t0 t1 t2 t3 t4 t5) : g < w.heap.size := Row.size h
theorem TAt.on (h : TAt w g t0 t1 t2 t3 t4 t5) (hb : Below w.heap.size w w') : TAt w' g t0 t1 t2 t3 t4 t5 := Row.below h hb h.size
theorem TAt.but {g1 : Nat} (h : TAt w g t0 t1 t2 t3 t4 t5) (hb : But w.heap.size g1 w w') (hg : g ≠ g1) : TAt w' g t0 t1 t2 t3 t4 t5 := Row.block h (hb.block g h.size hg)
theorem TAt.cell (h : TAt w g t0 t1 t2 t3 t4 t5) : w.cell? ⟨g, 0, none⟩ = some (.int .u64 (t0 : Nat)) ∧ w.cell? ⟨g, 1, none⟩ = some (.int .u64 (t1 : Nat)) ∧ w.cell? ⟨g, 2, none⟩ = some (.int .u64 (t2 : Nat)) ∧ w.cell? ⟨g, 3, none⟩ = some (.int .u64 (t3 : Nat)) ∧ w.cell? ⟨g, 4, none⟩ = some (.int .u64 (t4 : Nat)) ∧ w.cell? ⟨g, 5, none⟩ = some (.int .u64 (t5 : Nat)) := ⟨Row.cell h _ _ rfl, Row.cell h _ _ rfl, Row.cell h _ _ rfl, Row.cell h _ _ rfl, Row.cell h _ _ rfl, Row.cell h _ _ rfl⟩
theorem TAt.free (h : TAt w g t0 t1 t2 t3 t4 t5) (i : Nat) : w.frozen? ⟨g, i, none⟩ = false := Row.free h i
theorem TAt.set0 (h : TAt w g t0 t1 t2 t3 t4 t5) (v : Nat) : TAt (w.setCell ⟨g, 0, none⟩ (.int .u64 (v : Nat))) g v t1 t2 t3 t4 t5 := Row.set h 0 _
theorem TAt.set1 (h : TAt w g t0 t1 t2 t3 t4 t5) (v : Nat) : TAt (w.setCell ⟨g, 1, none⟩ (.int .u64 (v : Nat))) g t0 v t2 t3 t4 t5 := Row.set h 1 _
theorem TAt.set2 (h : TAt w g t0 t1 t2 t3 t4 t5) (v : Nat) : TAt (w.setCell ⟨g, 2, none⟩ (.int .u64 (v : Nat))) g t0 t1 v t3 t4 t5 := Row.set h 2 _
theorem TAt.set3 (h : TAt w g t0 t1 t2 t3 t4 t5) (v : Nat) : TAt (w.setCell ⟨g, 3, none⟩ (.int .u64 (v : Nat))) g t0 t1 t2 v t4 t5 := Row.set h 3 _
theorem TAt.set4 (h : TAt w g t0 t1 t2 t3 t4 t5) (v : Nat) : TAt (w.setCell ⟨g, 4, none⟩ (.int .u64 (v : Nat))) g t0 t1 t2 t3 v t5 := Row.set h 4 _
theorem TAt.set5 (h : TAt w g t0 t1 t2 t3 t4 t5) (v : Nat) : TAt (w.setCell ⟨g, 5, none⟩ (.int .u64 (v : Nat))) g t0 t1 t2 t3 t4 v := Row.set h 5 _
theorem new_six (w : World) : ∃ w1, w.alloc (.cells (tw 0 0 0 0 0 0).toArray 99) = w1 ∧ TAt w1 w.heap.size 0 0 0 0 0 0 ∧ Below w.heap.size w w1 ∧ w1.heap.size = w.heap.size + 1 :=
 ⟨_, rfl, Row.new w _ _, below_alloc (Below.refl _ _) _, by simp⟩
end
/-- five words' number -/
def val5 (t0 t1 t2 t3 t4 : Nat) : Nat := t0 + 18446744073709551616 * t1 + 340282366920938463463374607431768211456 * t2 + 6277101735386680763835789423207666416102355444464034512896 * t3 + 115792089237316195423570985008687907853269984665640564039457584007913129639936 * t4
/-- what a round keeps -/
structure MonI (m a b i t0 t1 t2 t3 t4 : Nat) : Prop where
 l0 : t0 < 18446744073709551616
 l1 : t1 < 18446744073709551616
 l2 : t2 < 18446744073709551616
 l3 : t3 < 18446744073709551616
 l4 : t4 < 18446744073709551616
 lt : val5 t0 t1 t2 t3 t4 < a + m
 eq : val5 t0 t1 t2 t3 t4 * 2 ^ (64 * i) % m = a * (b % 2 ^ (64 * i)) % m
theorem low_zero (u t n q : Nat) (hq : q = u * t % 18446744073709551616) (ht : (t * n + 1) % 18446744073709551616 = 0) : (q * n + u) % 18446744073709551616 = 0 := by
 rw [hq, Nat.add_mod, Nat.mod_mul_mod, ← Nat.add_mod, Nat.mul_assoc, show u * (t * n) + u = u * (t * n + 1) by rw [Nat.mul_add, Nat.mul_one], Nat.mul_mod, ht, Nat.mul_zero, Nat.zero_mod]
theorem words_mul (a0 a1 a2 a3 y : Nat) : val4 a0 a1 a2 a3 * y = a0 * y + 18446744073709551616 * (a1 * y) + 340282366920938463463374607431768211456 * (a2 * y) + 6277101735386680763835789423207666416102355444464034512896 * (a3 * y) := by
 unfold val4
 rw [Nat.add_mul, Nat.add_mul, Nat.add_mul, Nat.mul_assoc, Nat.mul_assoc, Nat.mul_assoc]
/-- the sum of a round -/
theorem round_sum (V ay qm P0 P1 P2 P3 Q0 Q1 Q2 Q3 t0 t1 t2 t3 t4 u0 u1 u2 u3 u4 u5 c1 c2 c3 c4 d1 d2 d3 d4 v0 v1 v2 v3 c : Nat)
  (hV : V = val5 t0 t1 t2 t3 t4) (hay : ay = P0 + 18446744073709551616 * P1 + 340282366920938463463374607431768211456 * P2 + 6277101735386680763835789423207666416102355444464034512896 * P3)
  (hqm : qm = Q0 + 18446744073709551616 * Q1 + 340282366920938463463374607431768211456 * Q2 + 6277101735386680763835789423207666416102355444464034512896 * Q3)
  (e0 : P0 + t0 + 0 = u0 + 18446744073709551616 * c1) (e1 : P1 + t1 + c1 = u1 + 18446744073709551616 * c2) (e2 : P2 + t2 + c2 = u2 + 18446744073709551616 * c3) (e3 : P3 + t3 + c3 = u3 + 18446744073709551616 * c4)
  (e4 : t4 + c4 = u4 + 18446744073709551616 * u5) (g0 : Q0 + u0 + 0 = 18446744073709551616 * d1) (g1 : Q1 + u1 + d1 = v0 + 18446744073709551616 * d2) (g2 : Q2 + u2 + d2 = v1 + 18446744073709551616 * d3) (g3 : Q3 + u3 + d3 = v2 + 18446744073709551616 * d4)
  (g4 : u4 + d4 = v3 + 18446744073709551616 * c) : 18446744073709551616 * val5 v0 v1 v2 v3 (u5 + c) = V + ay + qm := by
 rw [hV, hay, hqm]
 unfold val5
 omega
theorem split_mod (x B : Nat) : x = x % B + B * (x / B) := by have := Nat.div_add_mod x B; omega
theorem bits_next (b i : Nat) : b % 2 ^ (64 * (i + 1)) = b % 2 ^ (64 * i) + 2 ^ (64 * i) * xw b i := by
 unfold xw
 rw [Nat.mul_add, Nat.mul_one, Nat.pow_add, Nat.mod_mul]
theorem round_eq (m a b i V V' y q : Nat) (hy : y = xw b i) (hs : 18446744073709551616 * V' = V + a * y + q * m) (h : V * 2 ^ (64 * i) % m = a * (b % 2 ^ (64 * i)) % m) : V' * 2 ^ (64 * (i + 1)) % m = a * (b % 2 ^ (64 * (i + 1))) % m := by
 have e1 : V' * 2 ^ (64 * (i + 1)) = (V * 2 ^ (64 * i) + a * y * 2 ^ (64 * i)) + m * (q * 2 ^ (64 * i)) := by
  rw [Nat.mul_add 64 i 1, Nat.mul_one, Nat.pow_add, show (2 : Nat) ^ 64 = 18446744073709551616 from by decide]
  generalize 2 ^ (64 * i) = p
  rw [show V' * (p * 18446744073709551616) = (18446744073709551616 * V') * p by rw [Nat.mul_comm p, ← Nat.mul_assoc, Nat.mul_comm V'], hs, Nat.add_mul, Nat.add_mul, show q * m * p = m * (q * p) by rw [Nat.mul_comm q m, Nat.mul_assoc]]
 rw [e1, Nat.add_mul_mod_self_left, bits_next, Nat.mul_add, Nat.add_mod, h, ← Nat.add_mod, ← hy, Nat.mul_assoc a y, Nat.mul_comm y]
theorem round_lt (m a y q V V' : Nat) (hV : V < a + m) (hy : y < 18446744073709551616) (hq : q < 18446744073709551616) (hs : 18446744073709551616 * V' = V + a * y + q * m) : V' < a + m := by
 have h1 : a * y ≤ a * 18446744073709551615 := Nat.mul_le_mul_left a (by omega)
 have h2 : q * m ≤ 18446744073709551615 * m := Nat.mul_le_mul_right m (by omega)
 omega
theorem MonI.start (m a b : Nat) (ha : 0 < a + m) : MonI m a b 0 0 0 0 0 0 := by
 refine ⟨by decide, by decide, by decide, by decide, by decide, ?_, ?_⟩
 ·unfold val5; omega
 ·rw [Nat.mul_zero, Nat.pow_zero, Nat.mod_one, Nat.mul_zero]
  unfold val5
  simp
/-- one round, of words -/
theorem MonI.step {m a b i t0 t1 t2 t3 t4 y q tu u0 u1 u2 u3 u4 u5 c1 c2 c3 c4 z0 d1 d2 d3 d4 v0 v1 v2 v3 c : Nat} (h : MonI m a b i t0 t1 t2 t3 t4) (hm : m < N256) (ha : a < m) (hi : i < 4)
  (ht : (tu * wd0 m + 1) % 18446744073709551616 = 0) (hy : y = xw b i)
  (e0 : u0 = (wd0 a * y + t0 + 0) % 18446744073709551616) (f0 : c1 = (wd0 a * y + t0 + 0) / 18446744073709551616) (e1 : u1 = (wd1 a * y + t1 + c1) % 18446744073709551616) (f1 : c2 = (wd1 a * y + t1 + c1) / 18446744073709551616)
  (e2 : u2 = (wd2 a * y + t2 + c2) % 18446744073709551616) (f2 : c3 = (wd2 a * y + t2 + c2) / 18446744073709551616) (e3 : u3 = (wd3 a * y + t3 + c3) % 18446744073709551616) (f3 : c4 = (wd3 a * y + t3 + c3) / 18446744073709551616)
  (e4 : u4 = (t4 + c4) % 18446744073709551616) (f4 : u5 = (t4 + c4) / 18446744073709551616) (hq : q = u0 * tu % 18446744073709551616)
  (g0 : z0 = (q * wd0 m + u0 + 0) % 18446744073709551616) (k0 : d1 = (q * wd0 m + u0 + 0) / 18446744073709551616) (g1 : v0 = (q * wd1 m + u1 + d1) % 18446744073709551616) (k1 : d2 = (q * wd1 m + u1 + d1) / 18446744073709551616)
  (g2 : v1 = (q * wd2 m + u2 + d2) % 18446744073709551616) (k2 : d3 = (q * wd2 m + u2 + d2) / 18446744073709551616) (g3 : v2 = (q * wd3 m + u3 + d3) % 18446744073709551616) (k3 : d4 = (q * wd3 m + u3 + d3) / 18446744073709551616)
  (g4 : v3 = (u4 + d4) % 18446744073709551616) (k4 : c = (u4 + d4) / 18446744073709551616) : u5 + c < 18446744073709551616 ∧ MonI m a b (i + 1) v0 v1 v2 v3 (u5 + c) := by
 have haN : a < N256 := Nat.lt_trans ha hm
 have hB : (0 : Nat) < 18446744073709551616 := by decide
 have hz := low_zero u0 tu (wd0 m) q hq ht
 have hs := round_sum (val5 t0 t1 t2 t3 t4) (a * y) (q * m) (wd0 a * y) (wd1 a * y) (wd2 a * y) (wd3 a * y) (q * wd0 m) (q * wd1 m) (q * wd2 m) (q * wd3 m) t0 t1 t2 t3 t4 u0 u1 u2 u3 u4 u5 c1 c2 c3 c4 d1 d2 d3 d4 v0 v1 v2 v3 c rfl
  (by have h1 := words_mul (wd0 a) (wd1 a) (wd2 a) (wd3 a) y; rw [val_wd haN] at h1; exact h1)
  (by have h1 := words_mul (wd0 m) (wd1 m) (wd2 m) (wd3 m) q; rw [val_wd hm] at h1; rw [Nat.mul_comm q m, h1, Nat.mul_comm (wd0 m), Nat.mul_comm (wd1 m), Nat.mul_comm (wd2 m), Nat.mul_comm (wd3 m)])
  (by rw [e0, f0]; exact split_mod _ _) (by rw [e1, f1]; exact split_mod _ _) (by rw [e2, f2]; exact split_mod _ _) (by rw [e3, f3]; exact split_mod _ _) (by rw [e4, f4]; exact split_mod _ _)
  (by rw [k0]; have h1 := split_mod (q * wd0 m + u0 + 0) 18446744073709551616; rw [Nat.add_zero, hz] at h1; rw [Nat.add_zero]; omega)
  (by rw [g1, k1]; exact split_mod _ _) (by rw [g2, k2]; exact split_mod _ _) (by rw [g3, k3]; exact split_mod _ _) (by rw [g4, k4]; exact split_mod _ _)
 have hyl : y < 18446744073709551616 := by rw [hy]; exact Nat.lt_of_lt_of_eq (xw_lt b i) (by decide)
 have hql : q < 18446744073709551616 := by rw [hq]; exact Nat.mod_lt _ hB
 have hl := round_lt m a y q _ _ h.lt hyl hql hs
 have h5 : u5 + c < 18446744073709551616 := by
  unfold val5 at hl
  unfold N256 at hm
  omega
 refine ⟨h5, ⟨by rw [g1]; exact Nat.mod_lt _ hB, by rw [g2]; exact Nat.mod_lt _ hB, by rw [g3]; exact Nat.mod_lt _ hB, by rw [g4]; exact Nat.mod_lt _ hB, h5, hl, round_eq m a b i _ _ y q hy hs h.eq⟩⟩
/-- 2^256's inverse modulo m -/
def rinv (m : Nat) : Nat := ((m + 1) / 2) ^ 256 % m
def monR (m a b : Nat) : Nat := a * b * rinv m % m
theorem half_pow (m : Nat) (hm : m % 2 = 1) (h1 : 1 < m) : ∀ n, (((m + 1) / 2) ^ n * 2 ^ n) % m = 1
 | 0 => by rw [Nat.pow_zero, Nat.pow_zero, Nat.mul_one, Nat.mod_eq_of_lt h1]
 | n + 1 => by
  have ih := half_pow m hm h1 n
  rw [Nat.pow_succ ((m + 1) / 2), Nat.pow_succ 2 n, show ((m + 1) / 2) ^ n * ((m + 1) / 2) * (2 ^ n * 2) = (((m + 1) / 2) ^ n * 2 ^ n) * (((m + 1) / 2) * 2) by rw [Nat.mul_assoc, Nat.mul_left_comm ((m + 1) / 2), ← Nat.mul_assoc]]
  rw [show (m + 1) / 2 * 2 = m + 1 by omega, Nat.mul_mod, ih, Nat.one_mul, Nat.mod_mod, Nat.add_mod_left, Nat.mod_eq_of_lt h1]
theorem rinv_ok (m : Nat) (hm : m % 2 = 1) (h1 : 1 < m) : rinv m * N256 % m = 1 := by
 unfold rinv
 rw [Nat.mod_mul_mod, n256]
 exact half_pow m hm h1 256
/-- what the rounds come to -/
theorem MonI.done {m a b t0 t1 t2 t3 t4 : Nat} (h : MonI m a b 4 t0 t1 t2 t3 t4) (hm : m < N256) (hm1 : m % 2 = 1) (h1 : 1 < m) (ha : a < m) (hb : b < N256) :
  val4 t0 t1 t2 t3 < N256 ∧ lessN m (val4 t0 t1 t2 t3) (decide (0 < t4)) = monR m a b := by
 have hn : val4 t0 t1 t2 t3 < N256 := val4_lt h.l0 h.l1 h.l2 h.l3
 have hV : val5 t0 t1 t2 t3 t4 = val4 t0 t1 t2 t3 + N256 * t4 := by unfold val5 val4 N256; omega
 have hl := h.lt
 have he := h.eq
 rw [show 64 * 4 = 256 from rfl, ← n256, Nat.mod_eq_of_lt hb] at he
 have hr : val5 t0 t1 t2 t3 t4 % m = monR m a b := by
  unfold monR
  have h2 := rinv_ok m hm1 h1
  rw [Nat.mul_mod, ← he, ← Nat.mul_mod, Nat.mul_assoc, Nat.mul_comm N256, Nat.mul_mod, h2, Nat.mul_one, Nat.mod_mod]
 refine ⟨hn, ?_⟩
 rw [← hr]
 rw [hV] at hl ⊢
 generalize val4 t0 t1 t2 t3 = n at *
 have ht4 : t4 = 0 ∨ t4 = 1 := by unfold N256 at *; omega
 unfold lessN
 rcases ht4 with rfl | rfl
 ·rw [Nat.mul_zero, Nat.add_zero] at *
  by_cases h3 : m ≤ n
  ·rw [if_pos (Or.inr h3), show n + N256 - m = n - m + N256 by omega, Nat.add_mod_right, Nat.mod_eq_of_lt (a := n - m) (by omega), Nat.mod_eq_sub_mod h3, Nat.mod_eq_of_lt (by omega)]
  ·rw [if_neg (by simp; omega), Nat.mod_eq_of_lt (by omega)]
 ·rw [Nat.mul_one] at *
  rw [if_pos (Or.inl (by decide)), Nat.mod_eq_of_lt (a := n + N256 - m) (by omega), Nat.mod_eq_sub_mod (by omega), Nat.mod_eq_of_lt (by omega)]
end Go.Proofs.Ytkfjhndofbmhoaa
