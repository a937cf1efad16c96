/- What the proof of PointMultiples is made of, part 20. -/
import Derived.Test.YtkfjhndofbmhoaaZPointMultiples18
import Derived.Test.YtkfjhndofbmhoaaZPointMultiplesh
namespace Go.Proofs.Ytkfjhndofbmhoaa
open Go.RowKit Go.Proofs.Ytkfjhndofbmhoaa.Arr Go.Proofs.YtkfjhndofbmhoaaW.PrintWords Go.Proofs.YtkfjhndofbmhoaaW.PrintLast Go.Proofs.YtkfjhndofbmhoaaW.PrintMore
set_option linter.unusedVariables false
set_option linter.unusedSimpArgs false
theorem ix_num {ops : Array Oper} {rest : List Oper} {op : Oper} {a : Act} {w : World} {Q : Exit → Act → World → Prop} {b i v : Nat} (hv : v = xw b i) (hi : i < 4) (hgd : op.guard = none) (x y : Operand) (ho : op.op = .index 24 x y) (hx : a.eval x = numV b) (hy : a.eval y = .int .i64 (i : Int))
  (k : wpList Try.prog ops Q rest (a.put op.dst (.int .u64 (v : Nat))) w) : wpList Try.prog ops Q (op :: rest) a w := by
 subst hv
 refine Go.Great.wpList_runTo hgd op.dst rfl (.int .u64 (xw b i : Nat)) w ?_ k
 have e0 : xw b 0 = wd0 b := by unfold wd0 xw; rw [Nat.mul_zero, Nat.pow_zero, Nat.div_one]
 have e1 : xw b 1 = wd1 b := rfl
 have e2 : xw b 2 = wd2 b := rfl
 have e3 : xw b 3 = wd3 b := rfl
 have hu : Try.prog.underlying 24 = some (.array 4 22) := by kernel_rfl
 have hc : Try.prog.cellsOf 22 = 1 := by kernel_rfl
 have hp : Try.prog.plainKey 22 = true := by kernel_rfl
 have key : ∀ (j : Int) (v : Value), 0 ≤ j → j < 4 → (#[Value.int .u64 (wd0 b : Nat), .int .u64 (wd1 b : Nat), .int .u64 (wd2 b : Nat), .int .u64 (wd3 b : Nat)] : Array Value)[j.toNat]? = some v →
   (Instr.index 24 (.agg #[.int .u64 (wd0 b : Nat), .int .u64 (wd1 b : Nat), .int .u64 (wd2 b : Nat), .int .u64 (wd3 b : Nat)]) (.int .i64 j)).run Try.prog w = .ok v w := by
  intro j v hj0 hj4 hv
  have hp1 := run_part_plain (P := Try.prog) w hp hv
  have hin : 0 ≤ j ∧ j < ((4 : Nat) : Int) := ⟨hj0, hj4⟩
  have hin2 : 0 ≤ j ∧ j < 4 := ⟨hj0, hj4⟩
  obtain ⟨k, rfl⟩ := Int.eq_ofNat_of_zero_le hj0
  simp only [Int.toNat_natCast] at hv hp1
  have hk : k < 4 := by omega
  obtain ⟨h_, hh⟩ := Array.getElem?_eq_some_iff.1 hv
  simp [Instr.index, run_underlying hu, asIntOf, hin, hin2, hc, hp1, hk, go_sem]
  simpa using hh
 unfold execOp
 rw [ho]
 simp only [hx, hy, numV_def]
 have h4 : i = 0 ∨ i = 1 ∨ i = 2 ∨ i = 3 := by omega
 rcases h4 with rfl | rfl | rfl | rfl
 ·rw [e0]; simp [key 0 _ (by decide) (by decide) rfl]
 ·rw [e1]; simp [key 1 _ (by decide) (by decide) rfl]
 ·rw [e2]; simp [key 2 _ (by decide) (by decide) rfl]
 ·rw [e3]; simp [key 3 _ (by decide) (by decide) rfl]
theorem xw0 (b : Nat) : xw b 0 = wd0 b := by unfold wd0 xw; rw [Nat.mul_zero, Nat.pow_zero, Nat.div_one]
theorem xw1 (b : Nat) : xw b 1 = wd1 b := rfl
theorem xw2 (b : Nat) : xw b 2 = wd2 b := rfl
theorem xw3 (b : Nat) : xw b 3 = wd3 b := rfl
theorem add64_nat (x y : Nat) (hx : x < 18446744073709551616) (hy : y < 18446744073709551616) (w : World) :
  (callFunc 45 #[.int .u64 (x : Nat), .int .u64 (y : Nat), .int .u64 0]).run Try.prog w = .ok (.value (.tuple #[.int .u64 (((x + y) % 18446744073709551616 : Nat) : Int), .int .u64 (((x + y) / 18446744073709551616 : Nat) : Int)])) w := by
 have h := add64_run (x : Int) (y : Int) 0 (by omega) (by omega) (by omega) (by omega) w
 have e1 : lo ((x : Int) + (y : Int) + 0) = (((x + y) % 18446744073709551616 : Nat) : Int) := by unfold lo; omega
 have e2 : hi ((x : Int) + (y : Int) + 0) = (((x + y) / 18446744073709551616 : Nat) : Int) := by unfold hi; omega
 rw [e1, e2] at h
 exact h
theorem step_hi (x y a b : Nat) (hx : x < 18446744073709551616) (hy : y < 18446744073709551616) (ha : a < 18446744073709551616) (hb : b < 18446744073709551616) : (x * y + a + b) / 18446744073709551616 < 18446744073709551616 := by
 have h : x * y ≤ 18446744073709551615 * 18446744073709551615 := Nat.mul_le_mul (by omega) (by omega)
 omega
theorem mod_b (x : Nat) : x % 18446744073709551616 < 18446744073709551616 := Nat.mod_lt _ (by decide)
theorem wrap_sum (a b : Nat) (h : a + b < 18446744073709551616) : IntKind.u64.wrap ((a : Int) + (b : Int)) = ((a + b : Nat) : Int) := by rw [IntKind.wrap_u64]; omega
theorem wz0 : wrap64 0 = 0 := by unfold wrap64; omega
theorem wz1 : wrap64 1 = 1 := by unfold wrap64; omega
theorem wz2 : wrap64 2 = 2 := by unfold wrap64; omega
theorem inc4 {t : Nat} (h : t < 4) : wrap64 ((t : Int) + 1) = (t : Int) + 1 := by unfold wrap64; omega
theorem meas4 {t : Nat} (h : t < 4) : 4 - (intOf (.int .i64 ((t : Int) + 1))).toNat < 4 - (intOf (.int .i64 (t : Int))).toNat := by
 show 4 - ((t : Int) + 1).toNat < 4 - (t : Int).toNat
 omega
set_option maxRecDepth 100000 in
set_option maxHeartbeats 40000000 in
/-- (*field.Field).mont -/
theorem fmont_calls {gf m tu o s : Nat} (a b : Nat) (w : World) (hF : FAt w gf m tu o s) (hm : m < N256) (hm1 : m % 2 = 1) (h1 : 1 < m) (htu : tu < 18446744073709551616) (ht : (tu * wd0 m + 1) % 18446744073709551616 = 0) (ha : a < m) (hb : b < N256) :
  Calls Try.prog 74 #[.pointer (some ⟨gf, 0, none⟩), numV a, numV b] w fun e w' => e = .returned (numV (monR m a b)) ∧ Below w.heap.size w w' := by
 have HG : Aside0 (gf < w.heap.size) := Aside0.mk hF.size
 have HCM : Aside0 (m < N256 ∧ m % 2 = 1 ∧ 1 < m ∧ tu < 18446744073709551616 ∧ (tu * wd0 m + 1) % 18446744073709551616 = 0 ∧ a < m ∧ b < N256) := Aside0.mk ⟨hm, hm1, h1, htu, ht, ha, hb⟩
 have HST := Aside0.mk (MonI.start m a b (by omega))
 obtain ⟨r, hr⟩ : ∃ r, r = monR m a b := ⟨_, rfl⟩
 have HR0 := Aside0.mk hr
 rw [← hr]
 rw [numV_def a, numV_def b]
 clear hm hm1 h1 htu ht ha hb hr
 go_enter Try.func74, Try.ntmps74
 go_upto_region 2 with (fail)
 refine wp_at (w2 := (World.alloc (World.alloc (World.alloc (World.alloc w (.cells (nw a).toArray 24)) (.cells (nw b).toArray 24)) (.cells (nw 0).toArray 24)) (.cells (tw 0 0 0 0 0 0).toArray 99))) rfl ?_
 obtain ⟨x_0, e_0, h_0, b_0, s_0⟩ := new_num w a
 obtain ⟨x_1, e_1, h_1, b_1, s_1⟩ := new_num x_0 b
 obtain ⟨x_2, e_2, h_2, b_2, s_2⟩ := new_num x_1 0
 obtain ⟨x_3, e_3, h_3, b_3, s_3⟩ := new_six x_2 
 rw [e_0, e_1, e_2, e_3]
 rw [s_0] at h_1 s_1
 rw [s_1] at h_2 s_2
 rw [s_2] at h_3 s_3
 have HB : Aside0 (Below w.heap.size w x_3) := Aside0.mk (bl_both (bl_both (bl_both b_0 b_1) b_2) b_3)
 have HA : Aside0 (NAt x_3 (w.heap.size) a) := Aside0.mk (((h_0.on b_1).on b_2).on b_3)
 have HB2 : Aside0 (NAt x_3 (w.heap.size + 1) b) := Aside0.mk ((h_1.on b_2).on b_3)
 have HR : Aside0 (NAt x_3 (w.heap.size + 1 + 1) 0) := Aside0.mk (h_2.on b_3)
 have HT : Aside0 (TAt x_3 (w.heap.size + 1 + 1 + 1) 0 0 0 0 0 0) := Aside0.mk h_3
 have HS : Aside0 (w.heap.size + 1 + 1 + 1 + 1 ≤ x_3.heap.size) := Aside0.mk (Nat.le_of_eq s_3.symm)
 have HF := Aside0.mk (hF.on HB.out)
 clear e_0 h_0 b_0 s_0 e_1 h_1 b_1 s_1 e_2 h_2 b_2 s_2 e_3 h_3 b_3 s_3 hF
 obtain ⟨w1, hw_⟩ : ∃ x, x = x_3 := ⟨_, rfl⟩
 subst hw_
 clear x_0 x_1 x_2
 go_wp2_with (first | ((with_reducible refine gate_dst (N := 16) rfl ?_); refine ld_num (HB2.out.range) rfl _ rfl rfl ?_))
 go_loopw [17] (fun vi wr => ∃ i t0 t1 t2 t3 t4 t5 : Nat, i ≤ 4 ∧ vi = .int .i64 (i : Int) ∧ Aside0 (MonI m a b i t0 t1 t2 t3 t4) ∧ Aside0 (NAt wr (w.heap.size) a) ∧ Aside0 (NAt wr (w.heap.size + 1) b) ∧ Aside0 (NAt wr (w.heap.size + 1 + 1) 0) ∧ Aside0 (TAt wr (w.heap.size + 1 + 1 + 1) t0 t1 t2 t3 t4 t5) ∧ Aside0 (FAt wr gf m tu o s) ∧ Aside0 (Below w.heap.size w wr) ∧ Aside0 (w.heap.size + 1 + 1 + 1 + 1 ≤ wr.heap.size))
  (fun vi _ => 4 - (intOf vi).toNat)
 case atStart => exact ⟨0, 0, 0, 0, 0, 0, 0, Nat.zero_le _, rfl, HST, HA, HB2, HR, HT, HF, HB, HS⟩
 case round =>
  clear HA HB2 HR HT HF HB HS HST
  obtain ⟨i, t0, t1, t2, t3, t4, t5, hi, rfl, HI, HA, HB2, HR, HT, HF, HB, HS⟩ := hrel
  obtain ⟨w0, hu0⟩ : ∃ x, x = wr := ⟨_, rfl⟩
  subst hu0
  by_cases hlt : i < 4
  ·have q1 : (i : Int) < 4 := by omega
   have HLT := Aside0.mk hlt
   obtain ⟨y, ey⟩ : ∃ y, y = xw b i := ⟨_, rfl⟩
   have hy : y < 18446744073709551616 := by rw [ey]; exact Nat.lt_of_lt_of_eq (xw_lt b i) (by decide)
   obtain ⟨u0, e0⟩ : ∃ x, x = (wd0 a * y + t0 + 0) % 18446744073709551616 := ⟨_, rfl⟩
   obtain ⟨c1, f0⟩ : ∃ x, x = (wd0 a * y + t0 + 0) / 18446744073709551616 := ⟨_, rfl⟩
   have hc1 : c1 < 18446744073709551616 := by rw [f0]; exact step_hi _ _ _ _ (wd0_lt a) hy HI.out.l0 (by decide)
   have S0 : Aside0 (∀ u, Calls Try.prog 80 #[.int .u64 (wd0 a : Nat), .int .u64 (y : Nat), .int .u64 (t0 : Nat), .int .u64 0] u fun e x1 => e = .returned (.tuple #[.int .u64 (u0 : Nat), .int .u64 (c1 : Nat)]) ∧ u = x1) := Aside0.mk (fun u => by rw [e0, f0]; exact step_calls (wd0 a) y t0 0 (wd0_lt a) hy HI.out.l0 (by decide) u)
   obtain ⟨u1, e1⟩ : ∃ x, x = (wd1 a * y + t1 + c1) % 18446744073709551616 := ⟨_, rfl⟩
   obtain ⟨c2, f1⟩ : ∃ x, x = (wd1 a * y + t1 + c1) / 18446744073709551616 := ⟨_, rfl⟩
   have hc2 : c2 < 18446744073709551616 := by rw [f1]; exact step_hi _ _ _ _ (wd1_lt a) hy HI.out.l1 hc1
   have S1 : Aside0 (∀ u, Calls Try.prog 80 #[.int .u64 (wd1 a : Nat), .int .u64 (y : Nat), .int .u64 (t1 : Nat), .int .u64 (c1 : Nat)] u fun e x1 => e = .returned (.tuple #[.int .u64 (u1 : Nat), .int .u64 (c2 : Nat)]) ∧ u = x1) := Aside0.mk (fun u => by rw [e1, f1]; exact step_calls (wd1 a) y t1 c1 (wd1_lt a) hy HI.out.l1 hc1 u)
   obtain ⟨u2, e2⟩ : ∃ x, x = (wd2 a * y + t2 + c2) % 18446744073709551616 := ⟨_, rfl⟩
   obtain ⟨c3, f2⟩ : ∃ x, x = (wd2 a * y + t2 + c2) / 18446744073709551616 := ⟨_, rfl⟩
   have hc3 : c3 < 18446744073709551616 := by rw [f2]; exact step_hi _ _ _ _ (wd2_lt a) hy HI.out.l2 hc2
   have S2 : Aside0 (∀ u, Calls Try.prog 80 #[.int .u64 (wd2 a : Nat), .int .u64 (y : Nat), .int .u64 (t2 : Nat), .int .u64 (c2 : Nat)] u fun e x1 => e = .returned (.tuple #[.int .u64 (u2 : Nat), .int .u64 (c3 : Nat)]) ∧ u = x1) := Aside0.mk (fun u => by rw [e2, f2]; exact step_calls (wd2 a) y t2 c2 (wd2_lt a) hy HI.out.l2 hc2 u)
   obtain ⟨u3, e3⟩ : ∃ x, x = (wd3 a * y + t3 + c3) % 18446744073709551616 := ⟨_, rfl⟩
   obtain ⟨c4, f3⟩ : ∃ x, x = (wd3 a * y + t3 + c3) / 18446744073709551616 := ⟨_, rfl⟩
   have hc4 : c4 < 18446744073709551616 := by rw [f3]; exact step_hi _ _ _ _ (wd3_lt a) hy HI.out.l3 hc3
   have S3 : Aside0 (∀ u, Calls Try.prog 80 #[.int .u64 (wd3 a : Nat), .int .u64 (y : Nat), .int .u64 (t3 : Nat), .int .u64 (c3 : Nat)] u fun e x1 => e = .returned (.tuple #[.int .u64 (u3 : Nat), .int .u64 (c4 : Nat)]) ∧ u = x1) := Aside0.mk (fun u => by rw [e3, f3]; exact step_calls (wd3 a) y t3 c3 (wd3_lt a) hy HI.out.l3 hc3 u)
   obtain ⟨u4, e4⟩ : ∃ x, x = (t4 + c4) % 18446744073709551616 := ⟨_, rfl⟩
   obtain ⟨u5, f4⟩ : ∃ x, x = (t4 + c4) / 18446744073709551616 := ⟨_, rfl⟩
   have A1 : ∀ u, (callFunc 45 #[.int .u64 (t4 : Nat), .int .u64 (c4 : Nat), .int .u64 0]).run Try.prog u = .ok (.value (.tuple #[.int .u64 (u4 : Nat), .int .u64 (u5 : Nat)])) u := fun u => by rw [e4, f4]; exact add64_nat t4 c4 HI.out.l4 hc4 u
   obtain ⟨q, eq⟩ : ∃ x, x = u0 * tu % 18446744073709551616 := ⟨_, rfl⟩
   have hq : q < 18446744073709551616 := by rw [eq]; exact mod_b _
   have W1 := wrap_mul u0 tu
   rw [← eq] at W1
   obtain ⟨z0, g0⟩ : ∃ x, x = (q * wd0 m + u0 + 0) % 18446744073709551616 := ⟨_, rfl⟩
   obtain ⟨d1, k0⟩ : ∃ x, x = (q * wd0 m + u0 + 0) / 18446744073709551616 := ⟨_, rfl⟩
   have hd1 : d1 < 18446744073709551616 := by rw [k0]; exact step_hi _ _ _ _ hq (wd0_lt m) (by rw [e0]; exact mod_b _) (by decide)
   have Z0 : Aside0 (∀ u, Calls Try.prog 80 #[.int .u64 (q : Nat), .int .u64 (wd0 m : Nat), .int .u64 (u0 : Nat), .int .u64 0] u fun e x1 => e = .returned (.tuple #[.int .u64 (z0 : Nat), .int .u64 (d1 : Nat)]) ∧ u = x1) := Aside0.mk (fun u => by rw [g0, k0]; exact step_calls q (wd0 m) u0 0 hq (wd0_lt m) (by rw [e0]; exact mod_b _) (by decide) u)
   obtain ⟨v0, g1⟩ : ∃ x, x = (q * wd1 m + u1 + d1) % 18446744073709551616 := ⟨_, rfl⟩
   obtain ⟨d2, k1⟩ : ∃ x, x = (q * wd1 m + u1 + d1) / 18446744073709551616 := ⟨_, rfl⟩
   have hd2 : d2 < 18446744073709551616 := by rw [k1]; exact step_hi _ _ _ _ hq (wd1_lt m) (by rw [e1]; exact mod_b _) hd1
   have Z1 : Aside0 (∀ u, Calls Try.prog 80 #[.int .u64 (q : Nat), .int .u64 (wd1 m : Nat), .int .u64 (u1 : Nat), .int .u64 (d1 : Nat)] u fun e x1 => e = .returned (.tuple #[.int .u64 (v0 : Nat), .int .u64 (d2 : Nat)]) ∧ u = x1) := Aside0.mk (fun u => by rw [g1, k1]; exact step_calls q (wd1 m) u1 d1 hq (wd1_lt m) (by rw [e1]; exact mod_b _) hd1 u)
   obtain ⟨v1, g2⟩ : ∃ x, x = (q * wd2 m + u2 + d2) % 18446744073709551616 := ⟨_, rfl⟩
   obtain ⟨d3, k2⟩ : ∃ x, x = (q * wd2 m + u2 + d2) / 18446744073709551616 := ⟨_, rfl⟩
   have hd3 : d3 < 18446744073709551616 := by rw [k2]; exact step_hi _ _ _ _ hq (wd2_lt m) (by rw [e2]; exact mod_b _) hd2
   have Z2 : Aside0 (∀ u, Calls Try.prog 80 #[.int .u64 (q : Nat), .int .u64 (wd2 m : Nat), .int .u64 (u2 : Nat), .int .u64 (d2 : Nat)] u fun e x1 => e = .returned (.tuple #[.int .u64 (v1 : Nat), .int .u64 (d3 : Nat)]) ∧ u = x1) := Aside0.mk (fun u => by rw [g2, k2]; exact step_calls q (wd2 m) u2 d2 hq (wd2_lt m) (by rw [e2]; exact mod_b _) hd2 u)
   obtain ⟨v2, g3⟩ : ∃ x, x = (q * wd3 m + u3 + d3) % 18446744073709551616 := ⟨_, rfl⟩
   obtain ⟨d4, k3⟩ : ∃ x, x = (q * wd3 m + u3 + d3) / 18446744073709551616 := ⟨_, rfl⟩
   have hd4 : d4 < 18446744073709551616 := by rw [k3]; exact step_hi _ _ _ _ hq (wd3_lt m) (by rw [e3]; exact mod_b _) hd3
   have Z3 : Aside0 (∀ u, Calls Try.prog 80 #[.int .u64 (q : Nat), .int .u64 (wd3 m : Nat), .int .u64 (u3 : Nat), .int .u64 (d3 : Nat)] u fun e x1 => e = .returned (.tuple #[.int .u64 (v2 : Nat), .int .u64 (d4 : Nat)]) ∧ u = x1) := Aside0.mk (fun u => by rw [g3, k3]; exact step_calls q (wd3 m) u3 d3 hq (wd3_lt m) (by rw [e3]; exact mod_b _) hd3 u)
   obtain ⟨v3, g4⟩ : ∃ x, x = (u4 + d4) % 18446744073709551616 := ⟨_, rfl⟩
   obtain ⟨cc, k4⟩ : ∃ x, x = (u4 + d4) / 18446744073709551616 := ⟨_, rfl⟩
   have A2 : ∀ u, (callFunc 45 #[.int .u64 (u4 : Nat), .int .u64 (d4 : Nat), .int .u64 0]).run Try.prog u = .ok (.value (.tuple #[.int .u64 (v3 : Nat), .int .u64 (cc : Nat)])) u := fun u => by rw [g4, k4]; exact add64_nat u4 d4 (by rw [e4]; exact mod_b _) hd4 u
   have hst := HI.out.step HCM.out.1 HCM.out.2.2.2.2.2.1 hlt HCM.out.2.2.2.2.1 ey e0 f0 e1 f1 e2 f2 e3 f3 e4 f4 eq g0 k0 g1 k1 g2 k2 g3 k3 g4 k4
   have W2 := wrap_sum u5 cc hst.1
   obtain ⟨v4, hv4⟩ : ∃ x, x = u5 + cc := ⟨_, rfl⟩
   rw [← hv4] at W2 hst
   have HI2 := Aside0.mk hst.2
   have q2 := inc4 hlt
   have HY := Aside0.mk ey
   have HW1 := Aside0.mk W1
   have HW2 := Aside0.mk W2
   have HA1 := Aside0.mk A1
   have HA2 := Aside0.mk A2
   have HQ2 := Aside0.mk q2
   clear e0 f0 g0 k0 e1 f1 g1 k1 e2 f2 g2 k2 e3 f3 g3 k3 e4 f4 g4 k4 ey eq hq hy hlt hi hst hv4 W1 W2 A1 A2 q2 hc1 hd1 hc2 hd2 hc3 hd3 hc4 hd4 HI
   go_wp2_with (first | ((with_reducible refine gate_dst (N := 19) rfl ?_); refine ix_num HY.out HLT.out rfl _ _ rfl rfl rfl ?_) | ((with_reducible refine gate_dst (N := 20) rfl ?_); refine ld_num (HA.out.range) rfl _ rfl rfl ?_))
   clear q1
   refine wp_loop_rounds 5 ?_
   rw [rounds_succ]
   obtain ⟨ct0, ct1, ct2, ct3, ct4, ct5⟩ := HT.out.cell
   have zt := HT.out.free 0
   go_upto_region 10 with (first | ((with_reducible refine gate_dst (N := 24) rfl ?_); refine ix_num (i := 0) (xw0 a).symm (by decide) rfl _ _ rfl rfl rfl ?_) | ((with_reducible refine gate_callee (f := 80) rfl ?_); refine goesL_ (some 33) rfl rfl Try.func80 (by kernel_rfl) rfl #[.int .u64 (wd0 a : Nat), .int .u64 (y : Nat), .int .u64 (t0 : Nat), .int .u64 0] rfl (by (try simp only [List.map_toArray, List.map_cons, List.map_nil]); first | done | rfl) ?_; (with_reducible refine (S0.out _).mono ?_); rintro e w9 ⟨rfl, rfl⟩; refine ⟨_, rfl, ?_⟩))
   clear ct0 ct1 ct2 ct3 ct4 ct5 zt S0
   have hA_ : TAt (World.setCell w0 ⟨w.heap.size + 1 + 1 + 1, 0, none⟩ (.int .u64 (u0 : Int))) (w.heap.size + 1 + 1 + 1) u0 t1 t2 t3 t4 t5 := (HT.out.set0 u0)
   have hT_ : But w0.heap.size (w.heap.size + 1 + 1 + 1) w0 (World.setCell w0 ⟨w.heap.size + 1 + 1 + 1, 0, none⟩ (.int .u64 (u0 : Int))) := ((But.of (Below.refl _ w0)).self 0 _)
   generalize (World.setCell w0 ⟨w.heap.size + 1 + 1 + 1, 0, none⟩ (.int .u64 (u0 : Int))) = w1 at *
   replace HA := Aside0.mk (HA.out.but hT_ (by first | omega | (have := HG.out; omega)))
   replace HB2 := Aside0.mk (HB2.out.but hT_ (by first | omega | (have := HG.out; omega)))
   replace HR := Aside0.mk (HR.out.but hT_ (by first | omega | (have := HG.out; omega)))
   replace HF := Aside0.mk (HF.out.but hT_ (by first | omega | (have := HG.out; omega)))
   replace HT := Aside0.mk hA_
   replace HB := Aside0.mk (bl_but HB.out hT_ HB.out.size (by omega))
   replace HS := Aside0.mk (Nat.le_trans HS.out hT_.size)
   clear hA_ hT_
   go_wp2
   rw [rounds_succ]
   obtain ⟨ct0, ct1, ct2, ct3, ct4, ct5⟩ := HT.out.cell
   have zt := HT.out.free 1
   go_upto_region 10 with (first | ((with_reducible refine gate_dst (N := 24) rfl ?_); refine ix_num (i := 1) (xw1 a).symm (by decide) rfl _ _ rfl rfl rfl ?_) | ((with_reducible refine gate_callee (f := 80) rfl ?_); refine goesL_ (some 33) rfl rfl Try.func80 (by kernel_rfl) rfl #[.int .u64 (wd1 a : Nat), .int .u64 (y : Nat), .int .u64 (t1 : Nat), .int .u64 (c1 : Nat)] rfl (by (try simp only [List.map_toArray, List.map_cons, List.map_nil]); first | done | rfl) ?_; (with_reducible refine (S1.out _).mono ?_); rintro e w9 ⟨rfl, rfl⟩; refine ⟨_, rfl, ?_⟩))
   clear ct0 ct1 ct2 ct3 ct4 ct5 zt S1
   have hA_ : TAt (World.setCell w1 ⟨w.heap.size + 1 + 1 + 1, 1, none⟩ (.int .u64 (u1 : Int))) (w.heap.size + 1 + 1 + 1) u0 u1 t2 t3 t4 t5 := (HT.out.set1 u1)
   have hT_ : But w1.heap.size (w.heap.size + 1 + 1 + 1) w1 (World.setCell w1 ⟨w.heap.size + 1 + 1 + 1, 1, none⟩ (.int .u64 (u1 : Int))) := ((But.of (Below.refl _ w1)).self 1 _)
   generalize (World.setCell w1 ⟨w.heap.size + 1 + 1 + 1, 1, none⟩ (.int .u64 (u1 : Int))) = w2 at *
   replace HA := Aside0.mk (HA.out.but hT_ (by first | omega | (have := HG.out; omega)))
   replace HB2 := Aside0.mk (HB2.out.but hT_ (by first | omega | (have := HG.out; omega)))
   replace HR := Aside0.mk (HR.out.but hT_ (by first | omega | (have := HG.out; omega)))
   replace HF := Aside0.mk (HF.out.but hT_ (by first | omega | (have := HG.out; omega)))
   replace HT := Aside0.mk hA_
   replace HB := Aside0.mk (bl_but HB.out hT_ HB.out.size (by omega))
   replace HS := Aside0.mk (Nat.le_trans HS.out hT_.size)
   clear hA_ hT_
   go_wp2
   rw [rounds_succ]
   obtain ⟨ct0, ct1, ct2, ct3, ct4, ct5⟩ := HT.out.cell
   have zt := HT.out.free 2
   go_upto_region 10 with (first | ((with_reducible refine gate_dst (N := 24) rfl ?_); refine ix_num (i := 2) (xw2 a).symm (by decide) rfl _ _ rfl rfl rfl ?_) | ((with_reducible refine gate_callee (f := 80) rfl ?_); refine goesL_ (some 33) rfl rfl Try.func80 (by kernel_rfl) rfl #[.int .u64 (wd2 a : Nat), .int .u64 (y : Nat), .int .u64 (t2 : Nat), .int .u64 (c2 : Nat)] rfl (by (try simp only [List.map_toArray, List.map_cons, List.map_nil]); first | done | rfl) ?_; (with_reducible refine (S2.out _).mono ?_); rintro e w9 ⟨rfl, rfl⟩; refine ⟨_, rfl, ?_⟩))
   clear ct0 ct1 ct2 ct3 ct4 ct5 zt S2
   have hA_ : TAt (World.setCell w2 ⟨w.heap.size + 1 + 1 + 1, 2, none⟩ (.int .u64 (u2 : Int))) (w.heap.size + 1 + 1 + 1) u0 u1 u2 t3 t4 t5 := (HT.out.set2 u2)
   have hT_ : But w2.heap.size (w.heap.size + 1 + 1 + 1) w2 (World.setCell w2 ⟨w.heap.size + 1 + 1 + 1, 2, none⟩ (.int .u64 (u2 : Int))) := ((But.of (Below.refl _ w2)).self 2 _)
   generalize (World.setCell w2 ⟨w.heap.size + 1 + 1 + 1, 2, none⟩ (.int .u64 (u2 : Int))) = w3 at *
   replace HA := Aside0.mk (HA.out.but hT_ (by first | omega | (have := HG.out; omega)))
   replace HB2 := Aside0.mk (HB2.out.but hT_ (by first | omega | (have := HG.out; omega)))
   replace HR := Aside0.mk (HR.out.but hT_ (by first | omega | (have := HG.out; omega)))
   replace HF := Aside0.mk (HF.out.but hT_ (by first | omega | (have := HG.out; omega)))
   replace HT := Aside0.mk hA_
   replace HB := Aside0.mk (bl_but HB.out hT_ HB.out.size (by omega))
   replace HS := Aside0.mk (Nat.le_trans HS.out hT_.size)
   clear hA_ hT_
   go_wp2
   rw [rounds_succ]
   obtain ⟨ct0, ct1, ct2, ct3, ct4, ct5⟩ := HT.out.cell
   have zt := HT.out.free 3
   go_upto_region 10 with (first | ((with_reducible refine gate_dst (N := 24) rfl ?_); refine ix_num (i := 3) (xw3 a).symm (by decide) rfl _ _ rfl rfl rfl ?_) | ((with_reducible refine gate_callee (f := 80) rfl ?_); refine goesL_ (some 33) rfl rfl Try.func80 (by kernel_rfl) rfl #[.int .u64 (wd3 a : Nat), .int .u64 (y : Nat), .int .u64 (t3 : Nat), .int .u64 (c3 : Nat)] rfl (by (try simp only [List.map_toArray, List.map_cons, List.map_nil]); first | done | rfl) ?_; (with_reducible refine (S3.out _).mono ?_); rintro e w9 ⟨rfl, rfl⟩; refine ⟨_, rfl, ?_⟩))
   clear ct0 ct1 ct2 ct3 ct4 ct5 zt S3
   have hA_ : TAt (World.setCell w3 ⟨w.heap.size + 1 + 1 + 1, 3, none⟩ (.int .u64 (u3 : Int))) (w.heap.size + 1 + 1 + 1) u0 u1 u2 u3 t4 t5 := (HT.out.set3 u3)
   have hT_ : But w3.heap.size (w.heap.size + 1 + 1 + 1) w3 (World.setCell w3 ⟨w.heap.size + 1 + 1 + 1, 3, none⟩ (.int .u64 (u3 : Int))) := ((But.of (Below.refl _ w3)).self 3 _)
   generalize (World.setCell w3 ⟨w.heap.size + 1 + 1 + 1, 3, none⟩ (.int .u64 (u3 : Int))) = w4 at *
   replace HA := Aside0.mk (HA.out.but hT_ (by first | omega | (have := HG.out; omega)))
   replace HB2 := Aside0.mk (HB2.out.but hT_ (by first | omega | (have := HG.out; omega)))
   replace HR := Aside0.mk (HR.out.but hT_ (by first | omega | (have := HG.out; omega)))
   replace HF := Aside0.mk (HF.out.but hT_ (by first | omega | (have := HG.out; omega)))
   replace HT := Aside0.mk hA_
   replace HB := Aside0.mk (bl_but HB.out hT_ HB.out.size (by omega))
   replace HS := Aside0.mk (Nat.le_trans HS.out hT_.size)
   clear hA_ hT_
   go_wp2
   rw [rounds_succ]
   obtain ⟨ct0, ct1, ct2, ct3, ct4, ct5⟩ := HT.out.cell
   have zt := HT.out.free 4
   have zt5 := HT.out.free 5
   have A1 := HA1.out
   go_upto_region 12 with (fail)
   clear ct0 ct1 ct2 ct3 ct4 ct5 zt zt5 A1 HA1
   have hA_ : TAt (World.setCell (World.setCell w4 ⟨w.heap.size + 1 + 1 + 1, 4, none⟩ (.int .u64 (u4 : Int))) ⟨w.heap.size + 1 + 1 + 1, 5, none⟩ (.int .u64 (u5 : Int))) (w.heap.size + 1 + 1 + 1) u0 u1 u2 u3 u4 u5 := ((HT.out.set4 u4).set5 u5)
   have hT_ : But w4.heap.size (w.heap.size + 1 + 1 + 1) w4 (World.setCell (World.setCell w4 ⟨w.heap.size + 1 + 1 + 1, 4, none⟩ (.int .u64 (u4 : Int))) ⟨w.heap.size + 1 + 1 + 1, 5, none⟩ (.int .u64 (u5 : Int))) := (((But.of (Below.refl _ w4)).self 4 _).self 5 _)
   generalize (World.setCell (World.setCell w4 ⟨w.heap.size + 1 + 1 + 1, 4, none⟩ (.int .u64 (u4 : Int))) ⟨w.heap.size + 1 + 1 + 1, 5, none⟩ (.int .u64 (u5 : Int))) = w5 at *
   replace HA := Aside0.mk (HA.out.but hT_ (by first | omega | (have := HG.out; omega)))
   replace HB2 := Aside0.mk (HB2.out.but hT_ (by first | omega | (have := HG.out; omega)))
   replace HR := Aside0.mk (HR.out.but hT_ (by first | omega | (have := HG.out; omega)))
   replace HF := Aside0.mk (HF.out.but hT_ (by first | omega | (have := HG.out; omega)))
   replace HT := Aside0.mk hA_
   replace HB := Aside0.mk (bl_but HB.out hT_ HB.out.size (by omega))
   replace HS := Aside0.mk (Nat.le_trans HS.out hT_.size)
   clear hA_ hT_
   have c0 := HT.out.cell.1
   have c1_ := HF.out.turn
   have W1 := HW1.out
   refine start_ (n := 8) (S := fun w' => w'.cell? ⟨w.heap.size + 1 + 1 + 1, 0, none⟩ = some (.int .u64 (u0 : Nat)) ∧ w'.cell? ⟨gf, 4, none⟩ = some (.int .u64 (tu : Nat))) (ds := []) (bs 8 0) (by kernel_rfl) rfl rfl ⟨c0, c1_⟩ (fun hHeld => ?_)
   refine pu_ 0 47 (bs 8 1) ?_ ?_ ?_ ?_ ?_
   rotate_left
   ·intro w'
    go_simp
    with_reducible rfl
   rotate_left
   ·simp only [aS, i64_w, i32_w]
    rfl
   refine pu_ 2 49 (bs 8 5) ?_ ?_ ?_ ?_ ?_
   rotate_left
   ·intro w'
    go_simp
    with_reducible rfl
   rotate_left
   ·simp only [aS, i64_w, i32_w]
    rfl
   refine pu_ 3 50 (bs 8 13) ?_ ?_ ?_ ?_ ?_
   rotate_left
   ·intro w'
    go_simp
    with_reducible rfl
   rotate_left
   ·simp only [aS, i64_w, i32_w]
    rfl
   refine pu_ 4 51 (bs 8 29) ?_ ?_ ?_ ?_ ?_
   rotate_left
   ·intro w'
    go_simp
    with_reducible rfl
   rotate_left
   ·simp only [aS, i64_w, i32_w]
    rfl
   refine tk_ 1 48 (bs 8 31) ?_ ?_ hHeld ?_ ?_ ?_
   rotate_left
   ·rintro w' ⟨s0, s1⟩
    go_simp
    with_reducible rfl
   rotate_left
   ·simp only [aS, i64_w, i32_w]
    rfl
   refine tk_ 5 52 (bs 8 63) ?_ ?_ hHeld ?_ ?_ ?_
   rotate_left
   ·rintro w' ⟨s0, s1⟩
    go_simp
    with_reducible rfl
   rotate_left
   ·simp only [aS, i64_w, i32_w]
    rfl
   refine pu_ 6 53 (bs 8 127) ?_ ?_ ?_ ?_ ?_
   rotate_left
   ·intro w'
    go_simp
    with_reducible rfl
   rotate_left
   ·simp only [aS, i64_w, i32_w]
    rfl
   refine pu_ 7 14 (bs 8 255) ?_ ?_ ?_ ?_ ?_
   rotate_left
   ·intro w'
    go_simp
    with_reducible rfl
   rotate_left
   ·simp only [aS, i64_w, i32_w]
    rfl
   refine done_ (by kernel_rfl) ?_
   clear hHeld c0 c1_ W1 HW1
   have hd_ : Below w5.heap.size w5 (World.drew w5) := (Below.refl _ _).drew
   replace HA := Aside0.mk (HA.out.on hd_)
   replace HB2 := Aside0.mk (HB2.out.on hd_)
   replace HR := Aside0.mk (HR.out.on hd_)
   replace HT := Aside0.mk (HT.out.on hd_)
   replace HF := Aside0.mk (HF.out.on hd_)
   replace HB := Aside0.mk (bl_on HB.out hd_ HB.out.size)
   replace HS := Aside0.mk (Nat.le_trans HS.out hd_.size)
   clear hd_
   generalize World.drew w5 = w6 at *
   go_wp2
   have c0 := HT.out.cell.1
   have c1_ := HF.out.mod.1
   refine start_ (n := 13) (S := fun w' => w'.cell? ⟨gf, 0, none⟩ = some (.int .u64 (wd0 m : Nat)) ∧ w'.cell? ⟨w.heap.size + 1 + 1 + 1, 0, none⟩ = some (.int .u64 (u0 : Nat))) (ds := []) (bs 13 0) (by kernel_rfl) rfl rfl ⟨c1_, c0⟩ (fun hHeld => ?_)
   refine pu_ 0 55 (bs 13 1) ?_ ?_ ?_ ?_ ?_
   rotate_left
   ·intro w'
    go_simp
    with_reducible rfl
   rotate_left
   ·simp only [aS, i64_w, i32_w]
    rfl
   refine pu_ 1 56 (bs 13 3) ?_ ?_ ?_ ?_ ?_
   rotate_left
   ·intro w'
    go_simp
    with_reducible rfl
   rotate_left
   ·simp only [aS, i64_w, i32_w]
    rfl
   refine pu_ 2 57 (bs 13 7) ?_ ?_ ?_ ?_ ?_
   rotate_left
   ·intro w'
    go_simp
    with_reducible rfl
   rotate_left
   ·simp only [aS, i64_w, i32_w]
    rfl
   refine pu_ 3 58 (bs 13 15) ?_ ?_ ?_ ?_ ?_
   rotate_left
   ·intro w'
    go_simp
    with_reducible rfl
   rotate_left
   ·simp only [aS, i64_w, i32_w]
    rfl
   refine pu_ 4 59 (bs 13 31) ?_ ?_ ?_ ?_ ?_
   rotate_left
   ·intro w'
    go_simp
    with_reducible rfl
   rotate_left
   ·simp only [aS, i64_w, i32_w]
    rfl
   refine pu_ 6 61 (bs 13 95) ?_ ?_ ?_ ?_ ?_
   rotate_left
   ·intro w'
    go_simp
    with_reducible rfl
   rotate_left
   ·simp only [aS, i64_w, i32_w]
    rfl
   refine tk_ 5 60 (bs 13 127) ?_ ?_ hHeld ?_ ?_ ?_
   rotate_left
   ·rintro w' ⟨s0, s1⟩
    go_simp
    with_reducible rfl
   rotate_left
   ·simp only [aS, i64_w, i32_w]
    rfl
   refine tk_ 7 62 (bs 13 255) ?_ ?_ hHeld ?_ ?_ ?_
   rotate_left
   ·rintro w' ⟨s0, s1⟩
    go_simp
    with_reducible rfl
   rotate_left
   ·simp only [aS, i64_w, i32_w]
    rfl
   refine on1_ 8 (some 63) (bs 13 511) rfl fun K hK => ?_
   refine gs_ Try.func80 #[.int .u64 (q : Nat), .int .u64 (wd0 m : Nat), .int .u64 (u0 : Nat), .int .u64 0] rfl ?_
   with_reducible refine (Z0.out _).mono ?_
   rintro e w9 ⟨rfl, rfl⟩
   refine ⟨_, rfl, ?_⟩
   refine hK.out _ _ ⟨hHeld.1, hHeld.2⟩ (fun hHeld => ?_)
   clear hK K
   refine nm_ (some 63) ?_
   refine pu_ 9 54 (bs 13 1023) ?_ ?_ ?_ ?_ ?_
   rotate_left
   ·intro w'
    go_simp
    with_reducible rfl
   rotate_left
   ·simp only [aS, i64_w, i32_w]
    rfl
   refine pu_ 10 64 (bs 13 2047) ?_ ?_ ?_ ?_ ?_
   rotate_left
   ·intro w'
    go_simp
    with_reducible rfl
   rotate_left
   ·simp only [aS, i64_w, i32_w]
    rfl
   refine pu_ 11 65 (bs 13 4095) ?_ ?_ ?_ ?_ ?_
   rotate_left
   ·intro w'
    go_simp
    with_reducible rfl
   rotate_left
   ·simp only [aS, i64_w, i32_w]
    rfl
   refine pu_ 12 10 (bs 13 8191) ?_ ?_ ?_ ?_ ?_
   rotate_left
   ·intro w'
    go_simp
    with_reducible rfl
   rotate_left
   ·simp only [aS, i64_w, i32_w]
    rfl
   refine done_ (by kernel_rfl) ?_
   clear hHeld c0 c1_ Z0
   have hd_ : Below w6.heap.size w6 (World.drew w6) := (Below.refl _ _).drew
   replace HA := Aside0.mk (HA.out.on hd_)
   replace HB2 := Aside0.mk (HB2.out.on hd_)
   replace HR := Aside0.mk (HR.out.on hd_)
   replace HT := Aside0.mk (HT.out.on hd_)
   replace HF := Aside0.mk (HF.out.on hd_)
   replace HB := Aside0.mk (bl_on HB.out hd_ HB.out.size)
   replace HS := Aside0.mk (Nat.le_trans HS.out hd_.size)
   clear hd_
   generalize World.drew w6 = w7 at *
   go_wp2
   refine wp_loop_rounds 4 ?_
   rw [rounds_succ]
   go_wp2
   have wz := wz0
   have c0 := HT.out.cell.2.1
   have c1_ := HF.out.mod.2.1
   have cs_ := HT.out.cell.1
   have zt := HT.out.free 0
   refine start_ (n := 20) (S := fun w' => w'.cell? ⟨gf, 1, none⟩ = some (.int .u64 (wd1 m : Nat)) ∧ w'.cell? ⟨w.heap.size + 1 + 1 + 1, 1, none⟩ = some (.int .u64 (u1 : Nat)) ∧ w'.cell? ⟨w.heap.size + 1 + 1 + 1, 0, none⟩ = some (.int .u64 (u0 : Nat))) (ds := [18]) (bs 20 0) (by kernel_rfl) rfl rfl ⟨c1_, c0, cs_⟩ (fun hHeld => ?_)
   refine pu_ 0 71 (bs 20 1) ?_ ?_ ?_ ?_ ?_
   rotate_left
   ·intro w'
    go_simp
    with_reducible rfl
   rotate_left
   ·simp only [aS, i64_w, i32_w]
    rfl
   refine pu_ 1 72 (bs 20 3) ?_ ?_ ?_ ?_ ?_
   rotate_left
   ·intro w'
    go_simp
    with_reducible rfl
   rotate_left
   ·simp only [aS, i64_w, i32_w]
    rfl
   refine pu_ 2 73 (bs 20 7) ?_ ?_ ?_ ?_ ?_
   rotate_left
   ·intro w'
    go_simp
    with_reducible rfl
   rotate_left
   ·simp only [aS, i64_w, i32_w]
    rfl
   refine pu_ 3 74 (bs 20 15) ?_ ?_ ?_ ?_ ?_
   rotate_left
   ·intro w'
    go_simp
    with_reducible rfl
   rotate_left
   ·simp only [aS, i64_w, i32_w]
    rfl
   refine pu_ 4 75 (bs 20 31) ?_ ?_ ?_ ?_ ?_
   rotate_left
   ·intro w'
    go_simp
    with_reducible rfl
   rotate_left
   ·simp only [aS, i64_w, i32_w]
    rfl
   refine pu_ 5 76 (bs 20 63) ?_ ?_ ?_ ?_ ?_
   rotate_left
   ·intro w'
    go_simp
    with_reducible rfl
   rotate_left
   ·simp only [aS, i64_w, i32_w]
    rfl
   refine pu_ 6 77 (bs 20 127) ?_ ?_ ?_ ?_ ?_
   rotate_left
   ·intro w'
    go_simp
    with_reducible rfl
   rotate_left
   ·simp only [aS, i64_w, i32_w]
    rfl
   refine pu_ 7 78 (bs 20 255) ?_ ?_ ?_ ?_ ?_
   rotate_left
   ·intro w'
    go_simp
    with_reducible rfl
   rotate_left
   ·simp only [aS, i64_w, i32_w]
    rfl
   refine pu_ 9 80 (bs 20 767) ?_ ?_ ?_ ?_ ?_
   rotate_left
   ·intro w'
    go_simp
    with_reducible rfl
   rotate_left
   ·simp only [aS, i64_w, i32_w]
    rfl
   refine pu_ 10 81 (bs 20 1791) ?_ ?_ ?_ ?_ ?_
   rotate_left
   ·intro w'
    go_simp
    with_reducible rfl
   rotate_left
   ·simp only [aS, i64_w, i32_w]
    rfl
   refine pu_ 12 83 (bs 20 5887) ?_ ?_ ?_ ?_ ?_
   rotate_left
   ·intro w'
    go_simp
    with_reducible rfl
   rotate_left
   ·simp only [aS, i64_w, i32_w]
    rfl
   refine tk_ 8 79 (bs 20 6143) ?_ ?_ hHeld ?_ ?_ ?_
   rotate_left
   ·rintro w' ⟨s0, s1, s2⟩
    go_simp
    with_reducible rfl
   rotate_left
   ·simp only [aS, i64_w, i32_w]
    rfl
   refine tk_ 11 82 (bs 20 8191) ?_ ?_ hHeld ?_ ?_ ?_
   rotate_left
   ·rintro w' ⟨s0, s1, s2⟩
    go_simp
    with_reducible rfl
   rotate_left
   ·simp only [aS, i64_w, i32_w]
    rfl
   refine on1_ 13 (some 84) (bs 20 16383) rfl fun K hK => ?_
   refine gs_ Try.func80 #[.int .u64 (q : Nat), .int .u64 (wd1 m : Nat), .int .u64 (u1 : Nat), .int .u64 (d1 : Nat)] rfl ?_
   with_reducible refine (Z1.out _).mono ?_
   rintro e w9 ⟨rfl, rfl⟩
   refine ⟨_, rfl, ?_⟩
   refine hK.out _ _ ⟨hHeld.1, hHeld.2.1, hHeld.2.2⟩ (fun hHeld => ?_)
   clear hK K
   refine nm_ (some 84) ?_
   refine pu_ 14 70 (bs 20 32767) ?_ ?_ ?_ ?_ ?_
   rotate_left
   ·intro w'
    go_simp
    with_reducible rfl
   rotate_left
   ·simp only [aS, i64_w, i32_w]
    rfl
   refine pu_ 15 85 (bs 20 65535) ?_ ?_ ?_ ?_ ?_
   rotate_left
   ·intro w'
    go_simp
    with_reducible rfl
   rotate_left
   ·simp only [aS, i64_w, i32_w]
    rfl
   refine pu_ 16 86 (bs 20 131071) ?_ ?_ ?_ ?_ ?_
   rotate_left
   ·intro w'
    go_simp
    with_reducible rfl
   rotate_left
   ·simp only [aS, i64_w, i32_w]
    rfl
   refine pu_ 17 87 (bs 20 262143) ?_ ?_ ?_ ?_ ?_
   rotate_left
   ·intro w'
    go_simp
    with_reducible rfl
   rotate_left
   ·simp only [aS, i64_w, i32_w]
    rfl
   refine last_ (i := 18) (N := none) (bs 20 524287) rfl rfl (by kernel_rfl) (by decide) (fun K hK => ?_)
   refine skip_ (w1 := ?_) (by rfl) rfl ?_ ?_
   rotate_left
   ·go_simp
    rfl
   refine hK.out _ _ ?_
   clear hK K
   refine pu_ 19 10 (bs 20 1048575) ?_ ?_ ?_ ?_ ?_
   rotate_left
   ·intro w'
    go_simp
    with_reducible rfl
   rotate_left
   ·simp only [aS, i64_w, i32_w]
    rfl
   refine done_ (by kernel_rfl) ?_
   clear hHeld c0 c1_ cs_ zt wz Z1
   have hA_ : TAt (World.drew (World.setCell w7 ⟨w.heap.size + 1 + 1 + 1, 0, none⟩ (.int .u64 (v0 : Int)))) (w.heap.size + 1 + 1 + 1) v0 u1 u2 u3 u4 u5 := (HT.out.set0 v0)
   have hT_ : But w7.heap.size (w.heap.size + 1 + 1 + 1) w7 (World.drew (World.setCell w7 ⟨w.heap.size + 1 + 1 + 1, 0, none⟩ (.int .u64 (v0 : Int)))) := ((But.of (Below.refl _ w7)).self 0 _).drew
   generalize (World.drew (World.setCell w7 ⟨w.heap.size + 1 + 1 + 1, 0, none⟩ (.int .u64 (v0 : Int)))) = w8 at *
   replace HA := Aside0.mk (HA.out.but hT_ (by first | omega | (have := HG.out; omega)))
   replace HB2 := Aside0.mk (HB2.out.but hT_ (by first | omega | (have := HG.out; omega)))
   replace HR := Aside0.mk (HR.out.but hT_ (by first | omega | (have := HG.out; omega)))
   replace HF := Aside0.mk (HF.out.but hT_ (by first | omega | (have := HG.out; omega)))
   replace HT := Aside0.mk hA_
   replace HB := Aside0.mk (bl_but HB.out hT_ HB.out.size (by omega))
   replace HS := Aside0.mk (Nat.le_trans HS.out hT_.size)
   clear hA_ hT_
   go_wp2
   rw [rounds_succ]
   go_wp2
   have wz := wz1
   have c0 := HT.out.cell.2.2.1
   have c1_ := HF.out.mod.2.2.1
   have cs_ := HT.out.cell.2.1
   have zt := HT.out.free 1
   refine start_ (n := 20) (S := fun w' => w'.cell? ⟨gf, 2, none⟩ = some (.int .u64 (wd2 m : Nat)) ∧ w'.cell? ⟨w.heap.size + 1 + 1 + 1, 2, none⟩ = some (.int .u64 (u2 : Nat)) ∧ w'.cell? ⟨w.heap.size + 1 + 1 + 1, 1, none⟩ = some (.int .u64 (u1 : Nat))) (ds := [18]) (bs 20 0) (by kernel_rfl) rfl rfl ⟨c1_, c0, cs_⟩ (fun hHeld => ?_)
   refine pu_ 0 71 (bs 20 1) ?_ ?_ ?_ ?_ ?_
   rotate_left
   ·intro w'
    go_simp
    with_reducible rfl
   rotate_left
   ·simp only [aS, i64_w, i32_w]
    rfl
   refine pu_ 1 72 (bs 20 3) ?_ ?_ ?_ ?_ ?_
   rotate_left
   ·intro w'
    go_simp
    with_reducible rfl
   rotate_left
   ·simp only [aS, i64_w, i32_w]
    rfl
   refine pu_ 2 73 (bs 20 7) ?_ ?_ ?_ ?_ ?_
   rotate_left
   ·intro w'
    go_simp
    with_reducible rfl
   rotate_left
   ·simp only [aS, i64_w, i32_w]
    rfl
   refine pu_ 3 74 (bs 20 15) ?_ ?_ ?_ ?_ ?_
   rotate_left
   ·intro w'
    go_simp
    with_reducible rfl
   rotate_left
   ·simp only [aS, i64_w, i32_w]
    rfl
   refine pu_ 4 75 (bs 20 31) ?_ ?_ ?_ ?_ ?_
   rotate_left
   ·intro w'
    go_simp
    with_reducible rfl
   rotate_left
   ·simp only [aS, i64_w, i32_w]
    rfl
   refine pu_ 5 76 (bs 20 63) ?_ ?_ ?_ ?_ ?_
   rotate_left
   ·intro w'
    go_simp
    with_reducible rfl
   rotate_left
   ·simp only [aS, i64_w, i32_w]
    rfl
   refine pu_ 6 77 (bs 20 127) ?_ ?_ ?_ ?_ ?_
   rotate_left
   ·intro w'
    go_simp
    with_reducible rfl
   rotate_left
   ·simp only [aS, i64_w, i32_w]
    rfl
   refine pu_ 7 78 (bs 20 255) ?_ ?_ ?_ ?_ ?_
   rotate_left
   ·intro w'
    go_simp
    with_reducible rfl
   rotate_left
   ·simp only [aS, i64_w, i32_w]
    rfl
   refine pu_ 9 80 (bs 20 767) ?_ ?_ ?_ ?_ ?_
   rotate_left
   ·intro w'
    go_simp
    with_reducible rfl
   rotate_left
   ·simp only [aS, i64_w, i32_w]
    rfl
   refine pu_ 10 81 (bs 20 1791) ?_ ?_ ?_ ?_ ?_
   rotate_left
   ·intro w'
    go_simp
    with_reducible rfl
   rotate_left
   ·simp only [aS, i64_w, i32_w]
    rfl
   refine pu_ 12 83 (bs 20 5887) ?_ ?_ ?_ ?_ ?_
   rotate_left
   ·intro w'
    go_simp
    with_reducible rfl
   rotate_left
   ·simp only [aS, i64_w, i32_w]
    rfl
   refine tk_ 8 79 (bs 20 6143) ?_ ?_ hHeld ?_ ?_ ?_
   rotate_left
   ·rintro w' ⟨s0, s1, s2⟩
    go_simp
    with_reducible rfl
   rotate_left
   ·simp only [aS, i64_w, i32_w]
    rfl
   refine tk_ 11 82 (bs 20 8191) ?_ ?_ hHeld ?_ ?_ ?_
   rotate_left
   ·rintro w' ⟨s0, s1, s2⟩
    go_simp
    with_reducible rfl
   rotate_left
   ·simp only [aS, i64_w, i32_w]
    rfl
   refine on1_ 13 (some 84) (bs 20 16383) rfl fun K hK => ?_
   refine gs_ Try.func80 #[.int .u64 (q : Nat), .int .u64 (wd2 m : Nat), .int .u64 (u2 : Nat), .int .u64 (d2 : Nat)] rfl ?_
   with_reducible refine (Z2.out _).mono ?_
   rintro e w9 ⟨rfl, rfl⟩
   refine ⟨_, rfl, ?_⟩
   refine hK.out _ _ ⟨hHeld.1, hHeld.2.1, hHeld.2.2⟩ (fun hHeld => ?_)
   clear hK K
   refine nm_ (some 84) ?_
   refine pu_ 14 70 (bs 20 32767) ?_ ?_ ?_ ?_ ?_
   rotate_left
   ·intro w'
    go_simp
    with_reducible rfl
   rotate_left
   ·simp only [aS, i64_w, i32_w]
    rfl
   refine pu_ 15 85 (bs 20 65535) ?_ ?_ ?_ ?_ ?_
   rotate_left
   ·intro w'
    go_simp
    with_reducible rfl
   rotate_left
   ·simp only [aS, i64_w, i32_w]
    rfl
   refine pu_ 16 86 (bs 20 131071) ?_ ?_ ?_ ?_ ?_
   rotate_left
   ·intro w'
    go_simp
    with_reducible rfl
   rotate_left
   ·simp only [aS, i64_w, i32_w]
    rfl
   refine pu_ 17 87 (bs 20 262143) ?_ ?_ ?_ ?_ ?_
   rotate_left
   ·intro w'
    go_simp
    with_reducible rfl
   rotate_left
   ·simp only [aS, i64_w, i32_w]
    rfl
   refine last_ (i := 18) (N := none) (bs 20 524287) rfl rfl (by kernel_rfl) (by decide) (fun K hK => ?_)
   refine skip_ (w1 := ?_) (by rfl) rfl ?_ ?_
   rotate_left
   ·go_simp
    rfl
   refine hK.out _ _ ?_
   clear hK K
   refine pu_ 19 10 (bs 20 1048575) ?_ ?_ ?_ ?_ ?_
   rotate_left
   ·intro w'
    go_simp
    with_reducible rfl
   rotate_left
   ·simp only [aS, i64_w, i32_w]
    rfl
   refine done_ (by kernel_rfl) ?_
   clear hHeld c0 c1_ cs_ zt wz Z2
   have hA_ : TAt (World.drew (World.setCell w8 ⟨w.heap.size + 1 + 1 + 1, 1, none⟩ (.int .u64 (v1 : Int)))) (w.heap.size + 1 + 1 + 1) v0 v1 u2 u3 u4 u5 := (HT.out.set1 v1)
   have hT_ : But w8.heap.size (w.heap.size + 1 + 1 + 1) w8 (World.drew (World.setCell w8 ⟨w.heap.size + 1 + 1 + 1, 1, none⟩ (.int .u64 (v1 : Int)))) := ((But.of (Below.refl _ w8)).self 1 _).drew
   generalize (World.drew (World.setCell w8 ⟨w.heap.size + 1 + 1 + 1, 1, none⟩ (.int .u64 (v1 : Int)))) = w9 at *
   replace HA := Aside0.mk (HA.out.but hT_ (by first | omega | (have := HG.out; omega)))
   replace HB2 := Aside0.mk (HB2.out.but hT_ (by first | omega | (have := HG.out; omega)))
   replace HR := Aside0.mk (HR.out.but hT_ (by first | omega | (have := HG.out; omega)))
   replace HF := Aside0.mk (HF.out.but hT_ (by first | omega | (have := HG.out; omega)))
   replace HT := Aside0.mk hA_
   replace HB := Aside0.mk (bl_but HB.out hT_ HB.out.size (by omega))
   replace HS := Aside0.mk (Nat.le_trans HS.out hT_.size)
   clear hA_ hT_
   go_wp2
   rw [rounds_succ]
   go_wp2
   have wz := wz2
   have c0 := HT.out.cell.2.2.2.1
   have c1_ := HF.out.mod.2.2.2
   have cs_ := HT.out.cell.2.2.1
   have zt := HT.out.free 2
   refine start_ (n := 20) (S := fun w' => w'.cell? ⟨gf, 3, none⟩ = some (.int .u64 (wd3 m : Nat)) ∧ w'.cell? ⟨w.heap.size + 1 + 1 + 1, 3, none⟩ = some (.int .u64 (u3 : Nat)) ∧ w'.cell? ⟨w.heap.size + 1 + 1 + 1, 2, none⟩ = some (.int .u64 (u2 : Nat))) (ds := [18]) (bs 20 0) (by kernel_rfl) rfl rfl ⟨c1_, c0, cs_⟩ (fun hHeld => ?_)
   refine pu_ 0 71 (bs 20 1) ?_ ?_ ?_ ?_ ?_
   rotate_left
   ·intro w'
    go_simp
    with_reducible rfl
   rotate_left
   ·simp only [aS, i64_w, i32_w]
    rfl
   refine pu_ 1 72 (bs 20 3) ?_ ?_ ?_ ?_ ?_
   rotate_left
   ·intro w'
    go_simp
    with_reducible rfl
   rotate_left
   ·simp only [aS, i64_w, i32_w]
    rfl
   refine pu_ 2 73 (bs 20 7) ?_ ?_ ?_ ?_ ?_
   rotate_left
   ·intro w'
    go_simp
    with_reducible rfl
   rotate_left
   ·simp only [aS, i64_w, i32_w]
    rfl
   refine pu_ 3 74 (bs 20 15) ?_ ?_ ?_ ?_ ?_
   rotate_left
   ·intro w'
    go_simp
    with_reducible rfl
   rotate_left
   ·simp only [aS, i64_w, i32_w]
    rfl
   refine pu_ 4 75 (bs 20 31) ?_ ?_ ?_ ?_ ?_
   rotate_left
   ·intro w'
    go_simp
    with_reducible rfl
   rotate_left
   ·simp only [aS, i64_w, i32_w]
    rfl
   refine pu_ 5 76 (bs 20 63) ?_ ?_ ?_ ?_ ?_
   rotate_left
   ·intro w'
    go_simp
    with_reducible rfl
   rotate_left
   ·simp only [aS, i64_w, i32_w]
    rfl
   refine pu_ 6 77 (bs 20 127) ?_ ?_ ?_ ?_ ?_
   rotate_left
   ·intro w'
    go_simp
    with_reducible rfl
   rotate_left
   ·simp only [aS, i64_w, i32_w]
    rfl
   refine pu_ 7 78 (bs 20 255) ?_ ?_ ?_ ?_ ?_
   rotate_left
   ·intro w'
    go_simp
    with_reducible rfl
   rotate_left
   ·simp only [aS, i64_w, i32_w]
    rfl
   refine pu_ 9 80 (bs 20 767) ?_ ?_ ?_ ?_ ?_
   rotate_left
   ·intro w'
    go_simp
    with_reducible rfl
   rotate_left
   ·simp only [aS, i64_w, i32_w]
    rfl
   refine pu_ 10 81 (bs 20 1791) ?_ ?_ ?_ ?_ ?_
   rotate_left
   ·intro w'
    go_simp
    with_reducible rfl
   rotate_left
   ·simp only [aS, i64_w, i32_w]
    rfl
   refine pu_ 12 83 (bs 20 5887) ?_ ?_ ?_ ?_ ?_
   rotate_left
   ·intro w'
    go_simp
    with_reducible rfl
   rotate_left
   ·simp only [aS, i64_w, i32_w]
    rfl
   refine tk_ 8 79 (bs 20 6143) ?_ ?_ hHeld ?_ ?_ ?_
   rotate_left
   ·rintro w' ⟨s0, s1, s2⟩
    go_simp
    with_reducible rfl
   rotate_left
   ·simp only [aS, i64_w, i32_w]
    rfl
   refine tk_ 11 82 (bs 20 8191) ?_ ?_ hHeld ?_ ?_ ?_
   rotate_left
   ·rintro w' ⟨s0, s1, s2⟩
    go_simp
    with_reducible rfl
   rotate_left
   ·simp only [aS, i64_w, i32_w]
    rfl
   refine on1_ 13 (some 84) (bs 20 16383) rfl fun K hK => ?_
   refine gs_ Try.func80 #[.int .u64 (q : Nat), .int .u64 (wd3 m : Nat), .int .u64 (u3 : Nat), .int .u64 (d3 : Nat)] rfl ?_
   with_reducible refine (Z3.out _).mono ?_
   rintro e w9 ⟨rfl, rfl⟩
   refine ⟨_, rfl, ?_⟩
   refine hK.out _ _ ⟨hHeld.1, hHeld.2.1, hHeld.2.2⟩ (fun hHeld => ?_)
   clear hK K
   refine nm_ (some 84) ?_
   refine pu_ 14 70 (bs 20 32767) ?_ ?_ ?_ ?_ ?_
   rotate_left
   ·intro w'
    go_simp
    with_reducible rfl
   rotate_left
   ·simp only [aS, i64_w, i32_w]
    rfl
   refine pu_ 15 85 (bs 20 65535) ?_ ?_ ?_ ?_ ?_
   rotate_left
   ·intro w'
    go_simp
    with_reducible rfl
   rotate_left
   ·simp only [aS, i64_w, i32_w]
    rfl
   refine pu_ 16 86 (bs 20 131071) ?_ ?_ ?_ ?_ ?_
   rotate_left
   ·intro w'
    go_simp
    with_reducible rfl
   rotate_left
   ·simp only [aS, i64_w, i32_w]
    rfl
   refine pu_ 17 87 (bs 20 262143) ?_ ?_ ?_ ?_ ?_
   rotate_left
   ·intro w'
    go_simp
    with_reducible rfl
   rotate_left
   ·simp only [aS, i64_w, i32_w]
    rfl
   refine last_ (i := 18) (N := none) (bs 20 524287) rfl rfl (by kernel_rfl) (by decide) (fun K hK => ?_)
   refine skip_ (w1 := ?_) (by rfl) rfl ?_ ?_
   rotate_left
   ·go_simp
    rfl
   refine hK.out _ _ ?_
   clear hK K
   refine pu_ 19 10 (bs 20 1048575) ?_ ?_ ?_ ?_ ?_
   rotate_left
   ·intro w'
    go_simp
    with_reducible rfl
   rotate_left
   ·simp only [aS, i64_w, i32_w]
    rfl
   refine done_ (by kernel_rfl) ?_
   clear hHeld c0 c1_ cs_ zt wz Z3
   have hA_ : TAt (World.drew (World.setCell w9 ⟨w.heap.size + 1 + 1 + 1, 2, none⟩ (.int .u64 (v2 : Int)))) (w.heap.size + 1 + 1 + 1) v0 v1 v2 u3 u4 u5 := (HT.out.set2 v2)
   have hT_ : But w9.heap.size (w.heap.size + 1 + 1 + 1) w9 (World.drew (World.setCell w9 ⟨w.heap.size + 1 + 1 + 1, 2, none⟩ (.int .u64 (v2 : Int)))) := ((But.of (Below.refl _ w9)).self 2 _).drew
   generalize (World.drew (World.setCell w9 ⟨w.heap.size + 1 + 1 + 1, 2, none⟩ (.int .u64 (v2 : Int)))) = w10 at *
   replace HA := Aside0.mk (HA.out.but hT_ (by first | omega | (have := HG.out; omega)))
   replace HB2 := Aside0.mk (HB2.out.but hT_ (by first | omega | (have := HG.out; omega)))
   replace HR := Aside0.mk (HR.out.but hT_ (by first | omega | (have := HG.out; omega)))
   replace HF := Aside0.mk (HF.out.but hT_ (by first | omega | (have := HG.out; omega)))
   replace HT := Aside0.mk hA_
   replace HB := Aside0.mk (bl_but HB.out hT_ HB.out.size (by omega))
   replace HS := Aside0.mk (Nat.le_trans HS.out hT_.size)
   clear hA_ hT_
   go_wp2
   rw [rounds_succ]
   obtain ⟨ct0, ct1, ct2, ct3, ct4, ct5⟩ := HT.out.cell
   have zt := HT.out.free 3
   have zt4 := HT.out.free 4
   have A2 := HA2.out
   have W2 := HW2.out
   go_upto_region 20 with (fail)
   clear ct0 ct1 ct2 ct3 ct4 ct5 zt zt4 A2 HA2 W2 HW2
   have hA_ : TAt (World.setCell (World.setCell w10 ⟨w.heap.size + 1 + 1 + 1, 3, none⟩ (.int .u64 (v3 : Int))) ⟨w.heap.size + 1 + 1 + 1, 4, none⟩ (.int .u64 (v4 : Int))) (w.heap.size + 1 + 1 + 1) v0 v1 v2 v3 v4 u5 := ((HT.out.set3 v3).set4 v4)
   have hT_ : But w10.heap.size (w.heap.size + 1 + 1 + 1) w10 (World.setCell (World.setCell w10 ⟨w.heap.size + 1 + 1 + 1, 3, none⟩ (.int .u64 (v3 : Int))) ⟨w.heap.size + 1 + 1 + 1, 4, none⟩ (.int .u64 (v4 : Int))) := (((But.of (Below.refl _ w10)).self 3 _).self 4 _)
   generalize (World.setCell (World.setCell w10 ⟨w.heap.size + 1 + 1 + 1, 3, none⟩ (.int .u64 (v3 : Int))) ⟨w.heap.size + 1 + 1 + 1, 4, none⟩ (.int .u64 (v4 : Int))) = w11 at *
   replace HA := Aside0.mk (HA.out.but hT_ (by first | omega | (have := HG.out; omega)))
   replace HB2 := Aside0.mk (HB2.out.but hT_ (by first | omega | (have := HG.out; omega)))
   replace HR := Aside0.mk (HR.out.but hT_ (by first | omega | (have := HG.out; omega)))
   replace HF := Aside0.mk (HF.out.but hT_ (by first | omega | (have := HG.out; omega)))
   replace HT := Aside0.mk hA_
   replace HB := Aside0.mk (bl_but HB.out hT_ HB.out.size (by omega))
   replace HS := Aside0.mk (Nat.le_trans HS.out hT_.size)
   clear hA_ hT_
   have q2 := HQ2.out
   go_wp2
   refine ⟨⟨i + 1, v0, v1, v2, v3, v4, u5, HLT.out, ?_, HI2, HA, HB2, HR, HT, HF, HB, HS⟩, ?_⟩
   ·(try rw [q2]); rw [Int.natCast_add]; rfl
   ·(try rw [q2]); exact meas4 HLT.out
  ·have hi4 : i = 4 := by omega
   subst hi4
   obtain ⟨hnN, hls⟩ := HI.out.done HCM.out.1 HCM.out.2.1 HCM.out.2.2.1 HCM.out.2.2.2.2.2.1 HCM.out.2.2.2.2.2.2
   obtain ⟨n, hn⟩ : ∃ n, n = val4 t0 t1 t2 t3 := ⟨_, rfl⟩
   obtain ⟨D, hD⟩ : ∃ D, D = decide (0 < t4) := ⟨_, rfl⟩
   rw [← hn, ← hD] at hls
   rw [← hn] at hnN
   have d1 : decide (0 < t4) = D := hD.symm
   have HL := Aside0.mk (fun (u : World) (h : FAt u gf m tu o s) => fless_calls n D u h hnN HCM.out.1)
   rw [hls, ← HR0.out] at HL
   have HNV : Aside0 ((.agg #[.int .u64 (t0 : Nat), .int .u64 (t1 : Nat), .int .u64 (t2 : Nat), .int .u64 (t3 : Nat)] : Value) = numV n) := Aside0.mk (by rw [hn]; exact numV_of HI.out.l0 HI.out.l1 HI.out.l2 HI.out.l3)
   rw [show ((4 : Nat) : Int) = 4 from rfl]
   obtain ⟨ct0, ct1, ct2, ct3, ct4, ct5⟩ := HT.out.cell
   clear hn hD hls hnN hlt hi HI
   go_wp2_with (first | ((with_reducible refine gate_callee (f := 72) rfl ?_); refine goesL_ (some 115) rfl rfl Try.func72 (by kernel_rfl) rfl #[.pointer (some ⟨gf, 0, none⟩), numV n, .bool D] rfl (by (try rw [← HNV.out]); (try simp only [List.map_toArray, List.map_cons, List.map_nil]); first | done | rfl) ?_; (with_reducible refine (HL.out _ HF.out).mono ?_); rintro e u2 ⟨rfl, hb2⟩; clear ct0 ct1 ct2 ct3 ct4 ct5; replace HA := Aside0.mk (HA.out.on hb2); replace HB2 := Aside0.mk (HB2.out.on hb2); replace HR := Aside0.mk (HR.out.on hb2); replace HT := Aside0.mk (HT.out.on hb2); replace HF := Aside0.mk (HF.out.on hb2); replace HB := Aside0.mk (bl_on HB.out hb2 HB.out.size); replace HS := Aside0.mk (Nat.le_trans HS.out hb2.size); clear hb2; refine ⟨_, rfl, ?_⟩) | ((with_reducible refine gate_st (y := .tmp 115) rfl ?_); refine st_num (HR.out) rfl _ _ rfl rfl rfl ?_; intro u3 hA3 hT3; replace HA := Aside0.mk (HA.out.but hT3 (by first | omega | (have := HG.out; omega))); replace HB2 := Aside0.mk (HB2.out.but hT3 (by first | omega | (have := HG.out; omega))); replace HT := Aside0.mk (HT.out.but hT3 (by first | omega | (have := HG.out; omega))); replace HF := Aside0.mk (HF.out.but hT3 (by first | omega | (have := HG.out; omega))); replace HR := Aside0.mk hA3; replace HB := Aside0.mk (bl_but HB.out hT3 HB.out.size (by omega)); replace HS := Aside0.mk (Nat.le_trans HS.out hT3.size); clear hA3 hT3))
   exact bodyPost_ret (v := numV r) (results_nat rfl rfl HR.out) rfl ⟨rfl, HB.out⟩
end Go.Proofs.Ytkfjhndofbmhoaa
