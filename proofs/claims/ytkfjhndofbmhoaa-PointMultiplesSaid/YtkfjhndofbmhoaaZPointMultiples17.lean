/- What the proof of PointMultiples is made of, part 17. -/
import Derived.Test.YtkfjhndofbmhoaaZPointMultiples9
import Derived.Lib.Hide
import Derived.Lib.Mul64
import Derived.Laws.Bits64b
import Derived.Deep.QuietTactic
import Derived.BigQuiet
namespace Go.Proofs.Ytkfjhndofbmhoaa
open Go.RowKit
set_option linter.unusedVariables false
set_option linter.unusedSimpArgs false
namespace Mul64
theorem maskN (a : Nat) (ha : a < 18446744073709551616) : bits .and .u64 (a : Int) 4294967295 = ((a % 4294967296 : Nat) : Int) := by
 have h := bits_and_u64_nat a 4294967295 ha (by omega)
 have e : a &&& 4294967295 = a % 4294967296 := Nat.and_two_pow_sub_one_eq_mod a 32
 rw [e] at h
 exact h
theorem divN (a : Nat) : (a : Int) / 4294967296 = ((a / 4294967296 : Nat) : Int) := by omega
theorem mulN (a b : Nat) : (a : Int) * (b : Int) = ((a * b : Nat) : Int) := (Int.natCast_mul a b).symm
theorem addN (a b : Nat) : (a : Int) + (b : Int) = ((a + b : Nat) : Int) := (Int.natCast_add a b).symm
theorem wrapN (a : Nat) (ha : a < 18446744073709551616) : IntKind.u64.wrap (a : Int) = (a : Int) := by rw [IntKind.wrap_u64]; omega
theorem wrapM (a : Nat) : IntKind.u64.wrap (a : Int) = ((a % 18446744073709551616 : Nat) : Int) := by rw [IntKind.wrap_u64]; omega
end Mul64
set_option maxHeartbeats 1000000 in
theorem mul64_calls (x y : Nat) (hx : x < 18446744073709551616) (hy : y < 18446744073709551616) (w : World) :
  Calls Try.prog 78 #[.int .u64 x, .int .u64 y] w fun e w' => e = .returned (.tuple #[.int .u64 ((x * y / 18446744073709551616 : Nat) : Int), .int .u64 ((x * y % 18446744073709551616 : Nat) : Int)]) ∧ w = w' := by
 obtain ⟨bd, bt, bw, hhi⟩ := Lib.mul64_hi x y hx hy
 have ba := Lib.half_mul_le (a := x / 4294967296) (b := y / 4294967296) (by omega) (by omega)
 have bb := Lib.half_mul_le (a := x / 4294967296) (b := y % 4294967296) (by omega) (by omega)
 have bc := Lib.half_mul_le (a := x % 4294967296) (b := y / 4294967296) (by omega) (by omega)
 have ba' : x / 4294967296 * (y / 4294967296) < 18446744073709551616 := by omega
 have bb' : x / 4294967296 * (y % 4294967296) < 18446744073709551616 := by omega
 have bc' : x % 4294967296 * (y / 4294967296) < 18446744073709551616 := by omega
 have bh1 : x / 4294967296 * (y / 4294967296) + (x / 4294967296 * (y % 4294967296) + x % 4294967296 * (y % 4294967296) / 4294967296) / 4294967296 < 18446744073709551616 := by omega
 have bh : x / 4294967296 * (y / 4294967296) + (x / 4294967296 * (y % 4294967296) + x % 4294967296 * (y % 4294967296) / 4294967296) / 4294967296 + ((x / 4294967296 * (y % 4294967296) + x % 4294967296 * (y % 4294967296) / 4294967296) % 4294967296 + x % 4294967296 * (y / 4294967296)) / 4294967296 < 18446744073709551616 := by omega
 go_enter Try.func78, Try.ntmps78
 go_wp2
 simp only [Mul64.maskN x hx, Mul64.maskN y hy, Mul64.divN, Mul64.mulN, Mul64.addN, Mul64.wrapN _ bd, Mul64.wrapN _ bb', Mul64.wrapN _ bt, Mul64.maskN _ bt, Mul64.wrapN _ bc', Mul64.wrapN _ bw, Mul64.wrapN _ ba', Mul64.wrapN _ bh1, Mul64.wrapN _ bh, Mul64.wrapM (x * y)]
 rw [hhi]
 go_ret2
 exact ⟨rfl, rfl⟩
/-- One round of the school's way: x y + o + v, in two words. -/
theorem round_facts (x y o v : Int) (hx : 0 ≤ x) (hx' : x < 18446744073709551616) (hy : 0 ≤ y) (hy' : y < 18446744073709551616) (ho : 0 ≤ o) (ho' : o < 18446744073709551616) (hv : 0 ≤ v) (hv' : v < 18446744073709551616) :
  ∃ h l l1 c1 h1 l2 c2 h2 : Int, Hid (∀ w, Calls Try.prog 78 #[.int .u64 x, .int .u64 y] w fun e w' => e = .returned (.tuple #[.int .u64 h, .int .u64 l]) ∧ w = w') ∧
   (∀ w, (callFunc 45 #[.int .u64 l, .int .u64 o, .int .u64 0]).run Try.prog w = .ok (.value (.tuple #[.int .u64 l1, .int .u64 c1])) w) ∧ IntKind.u64.wrap (h + c1) = h1 ∧
   (∀ w, (callFunc 45 #[.int .u64 l1, .int .u64 v, .int .u64 0]).run Try.prog w = .ok (.value (.tuple #[.int .u64 l2, .int .u64 c2])) w) ∧ IntKind.u64.wrap (h1 + c2) = h2 ∧
   0 ≤ l2 ∧ l2 < 18446744073709551616 ∧ 0 ≤ h2 ∧ h2 < 18446744073709551616 ∧ Hid (x * y + o + v = l2 + 18446744073709551616 * h2) := by
 obtain ⟨X, rfl⟩ := Int.eq_ofNat_of_zero_le hx
 obtain ⟨Y, rfl⟩ := Int.eq_ofNat_of_zero_le hy
 have hm := mul64_calls X Y (by omega) (by omega)
 have hb : X * Y ≤ 18446744073709551615 * 18446744073709551615 := Nat.mul_le_mul (by omega) (by omega)
 have hc : (X : Int) * (Y : Int) = ((X * Y : Nat) : Int) := (Int.natCast_mul X Y).symm
 rw [hc]
 generalize X * Y = p at *
 have had := add64_run ((p % 18446744073709551616 : Nat) : Int) o 0 (by omega) ho (by omega) (by omega)
 have hl : 0 ≤ lo (((p % 18446744073709551616 : Nat) : Int) + o + 0) := by unfold lo; omega
 have had2 := add64_run (lo (((p % 18446744073709551616 : Nat) : Int) + o + 0)) v 0 hl hv (by omega) (by omega)
 refine ⟨_, _, _, _, _, _, _, _, Lib.hid hm, had, rfl, had2, rfl, ?_, ?_, ?_, ?_, Lib.hid ?_⟩
 ·unfold lo; omega
 ·unfold lo; omega
 ·rw [IntKind.wrap_u64]; omega
 ·rw [IntKind.wrap_u64]; omega
 ·simp only [IntKind.wrap_u64, lo, hi]; omega
theorem mul_expand (x0 x1 x2 x3 y0 y1 y2 y3 : Int) : (x0 + 18446744073709551616 * x1 + 340282366920938463463374607431768211456 * x2 + 6277101735386680763835789423207666416102355444464034512896 * x3) * (y0 + 18446744073709551616 * y1 + 340282366920938463463374607431768211456 * y2 + 6277101735386680763835789423207666416102355444464034512896 * y3) = x0 * y0 + 18446744073709551616 * (x0 * y1) + 340282366920938463463374607431768211456 * (x0 * y2) + 6277101735386680763835789423207666416102355444464034512896 * (x0 * y3) + 18446744073709551616 * (x1 * y0) + 340282366920938463463374607431768211456 * (x1 * y1) + 6277101735386680763835789423207666416102355444464034512896 * (x1 * y2) + 115792089237316195423570985008687907853269984665640564039457584007913129639936 * (x1 * y3) + 340282366920938463463374607431768211456 * (x2 * y0) + 6277101735386680763835789423207666416102355444464034512896 * (x2 * y1) + 115792089237316195423570985008687907853269984665640564039457584007913129639936 * (x2 * y2) + 2135987035920910082395021706169552114602704522356652769947041607822219725780640550022962086936576 * (x2 * y3) + 6277101735386680763835789423207666416102355444464034512896 * (x3 * y0) + 115792089237316195423570985008687907853269984665640564039457584007913129639936 * (x3 * y1) + 2135987035920910082395021706169552114602704522356652769947041607822219725780640550022962086936576 * (x3 * y2) + 39402006196394479212279040100143613805079739270465446667948293404245721771497210611414266254884915640806627990306816 * (x3 * y3) := by
 grind
set_option maxRecDepth 100000 in
set_option maxHeartbeats 4000000 in
theorem mul_walk (x0 x1 x2 x3 y0 y1 y2 y3 : Int) (w : World)
  (hx0 : 0 ≤ x0) (hx0' : x0 < 18446744073709551616) (hx1 : 0 ≤ x1) (hx1' : x1 < 18446744073709551616) (hx2 : 0 ≤ x2) (hx2' : x2 < 18446744073709551616) (hx3 : 0 ≤ x3) (hx3' : x3 < 18446744073709551616) (hy0 : 0 ≤ y0) (hy0' : y0 < 18446744073709551616) (hy1 : 0 ≤ y1) (hy1' : y1 < 18446744073709551616) (hy2 : 0 ≤ y2) (hy2' : y2 < 18446744073709551616) (hy3 : 0 ≤ y3) (hy3' : y3 < 18446744073709551616) :
  Calls Try.prog 70 #[.agg #[.int .u64 x0, .int .u64 x1, .int .u64 x2, .int .u64 x3], .agg #[.int .u64 y0, .int .u64 y1, .int .u64 y2, .int .u64 y3]] w fun e w' =>
   ∃ r0 r1 r2 r3 r4 r5 r6 r7 : Int, e = .returned (.agg #[.int .u64 r0, .int .u64 r1, .int .u64 r2, .int .u64 r3, .int .u64 r4, .int .u64 r5, .int .u64 r6, .int .u64 r7]) ∧ Hid (0 ≤ r0 ∧ r0 < 18446744073709551616 ∧ 0 ≤ r1 ∧ r1 < 18446744073709551616 ∧ 0 ≤ r2 ∧ r2 < 18446744073709551616 ∧ 0 ≤ r3 ∧ r3 < 18446744073709551616 ∧ 0 ≤ r4 ∧ r4 < 18446744073709551616 ∧ 0 ≤ r5 ∧ r5 < 18446744073709551616 ∧ 0 ≤ r6 ∧ r6 < 18446744073709551616 ∧ 0 ≤ r7 ∧ r7 < 18446744073709551616 ∧
    r0 + 18446744073709551616 * r1 + 340282366920938463463374607431768211456 * r2 + 6277101735386680763835789423207666416102355444464034512896 * r3 + 115792089237316195423570985008687907853269984665640564039457584007913129639936 * r4 + 2135987035920910082395021706169552114602704522356652769947041607822219725780640550022962086936576 * r5 + 39402006196394479212279040100143613805079739270465446667948293404245721771497210611414266254884915640806627990306816 * r6 + 726838724295606890549323807888004534353641360687318060281490199180639288113397923326191050713763565560762521606266177933534601628614656 * r7 = (x0 + 18446744073709551616 * x1 + 340282366920938463463374607431768211456 * x2 + 6277101735386680763835789423207666416102355444464034512896 * x3) * (y0 + 18446744073709551616 * y1 + 340282366920938463463374607431768211456 * y2 + 6277101735386680763835789423207666416102355444464034512896 * y3)) ∧ Below w.heap.size w w' := by
 obtain ⟨h00, l00, m00, c00, g00, r00, d00, v00, C00, A00, e00, B00, f00, rl00, rh00, vl00, vh00, K00⟩ := round_facts x0 y0 0 0 hx0 hx0' hy0 hy0' (by omega) (by omega) (by omega) (by omega)
 obtain ⟨h01, l01, m01, c01, g01, r01, d01, v01, C01, A01, e01, B01, f01, rl01, rh01, vl01, vh01, K01⟩ := round_facts x0 y1 0 v00 hx0 hx0' hy1 hy1' (by omega) (by omega) (by omega) (by omega)
 obtain ⟨h02, l02, m02, c02, g02, r02, d02, v02, C02, A02, e02, B02, f02, rl02, rh02, vl02, vh02, K02⟩ := round_facts x0 y2 0 v01 hx0 hx0' hy2 hy2' (by omega) (by omega) (by omega) (by omega)
 obtain ⟨h03, l03, m03, c03, g03, r03, d03, v03, C03, A03, e03, B03, f03, rl03, rh03, vl03, vh03, K03⟩ := round_facts x0 y3 0 v02 hx0 hx0' hy3 hy3' (by omega) (by omega) (by omega) (by omega)
 obtain ⟨h10, l10, m10, c10, g10, r10, d10, v10, C10, A10, e10, B10, f10, rl10, rh10, vl10, vh10, K10⟩ := round_facts x1 y0 r01 0 hx1 hx1' hy0 hy0' (by omega) (by omega) (by omega) (by omega)
 obtain ⟨h11, l11, m11, c11, g11, r11, d11, v11, C11, A11, e11, B11, f11, rl11, rh11, vl11, vh11, K11⟩ := round_facts x1 y1 r02 v10 hx1 hx1' hy1 hy1' (by omega) (by omega) (by omega) (by omega)
 obtain ⟨h12, l12, m12, c12, g12, r12, d12, v12, C12, A12, e12, B12, f12, rl12, rh12, vl12, vh12, K12⟩ := round_facts x1 y2 r03 v11 hx1 hx1' hy2 hy2' (by omega) (by omega) (by omega) (by omega)
 obtain ⟨h13, l13, m13, c13, g13, r13, d13, v13, C13, A13, e13, B13, f13, rl13, rh13, vl13, vh13, K13⟩ := round_facts x1 y3 v03 v12 hx1 hx1' hy3 hy3' (by omega) (by omega) (by omega) (by omega)
 obtain ⟨h20, l20, m20, c20, g20, r20, d20, v20, C20, A20, e20, B20, f20, rl20, rh20, vl20, vh20, K20⟩ := round_facts x2 y0 r11 0 hx2 hx2' hy0 hy0' (by omega) (by omega) (by omega) (by omega)
 obtain ⟨h21, l21, m21, c21, g21, r21, d21, v21, C21, A21, e21, B21, f21, rl21, rh21, vl21, vh21, K21⟩ := round_facts x2 y1 r12 v20 hx2 hx2' hy1 hy1' (by omega) (by omega) (by omega) (by omega)
 obtain ⟨h22, l22, m22, c22, g22, r22, d22, v22, C22, A22, e22, B22, f22, rl22, rh22, vl22, vh22, K22⟩ := round_facts x2 y2 r13 v21 hx2 hx2' hy2 hy2' (by omega) (by omega) (by omega) (by omega)
 obtain ⟨h23, l23, m23, c23, g23, r23, d23, v23, C23, A23, e23, B23, f23, rl23, rh23, vl23, vh23, K23⟩ := round_facts x2 y3 v13 v22 hx2 hx2' hy3 hy3' (by omega) (by omega) (by omega) (by omega)
 obtain ⟨h30, l30, m30, c30, g30, r30, d30, v30, C30, A30, e30, B30, f30, rl30, rh30, vl30, vh30, K30⟩ := round_facts x3 y0 r21 0 hx3 hx3' hy0 hy0' (by omega) (by omega) (by omega) (by omega)
 obtain ⟨h31, l31, m31, c31, g31, r31, d31, v31, C31, A31, e31, B31, f31, rl31, rh31, vl31, vh31, K31⟩ := round_facts x3 y1 r22 v30 hx3 hx3' hy1 hy1' (by omega) (by omega) (by omega) (by omega)
 obtain ⟨h32, l32, m32, c32, g32, r32, d32, v32, C32, A32, e32, B32, f32, rl32, rh32, vl32, vh32, K32⟩ := round_facts x3 y2 r23 v31 hx3 hx3' hy2 hy2' (by omega) (by omega) (by omega) (by omega)
 obtain ⟨h33, l33, m33, c33, g33, r33, d33, v33, C33, A33, e33, B33, f33, rl33, rh33, vl33, vh33, K33⟩ := round_facts x3 y3 v23 v32 hx3 hx3' hy3 hy3' (by omega) (by omega) (by omega) (by omega)
 have HH : Hid (0 ≤ r00 ∧ r00 < 18446744073709551616 ∧ 0 ≤ r10 ∧ r10 < 18446744073709551616 ∧ 0 ≤ r20 ∧ r20 < 18446744073709551616 ∧ 0 ≤ r30 ∧ r30 < 18446744073709551616 ∧ 0 ≤ r31 ∧ r31 < 18446744073709551616 ∧ 0 ≤ r32 ∧ r32 < 18446744073709551616 ∧ 0 ≤ r33 ∧ r33 < 18446744073709551616 ∧ 0 ≤ v33 ∧ v33 < 18446744073709551616 ∧
    r00 + 18446744073709551616 * r10 + 340282366920938463463374607431768211456 * r20 + 6277101735386680763835789423207666416102355444464034512896 * r30 + 115792089237316195423570985008687907853269984665640564039457584007913129639936 * r31 + 2135987035920910082395021706169552114602704522356652769947041607822219725780640550022962086936576 * r32 + 39402006196394479212279040100143613805079739270465446667948293404245721771497210611414266254884915640806627990306816 * r33 + 726838724295606890549323807888004534353641360687318060281490199180639288113397923326191050713763565560762521606266177933534601628614656 * v33 = (x0 + 18446744073709551616 * x1 + 340282366920938463463374607431768211456 * x2 + 6277101735386680763835789423207666416102355444464034512896 * x3) * (y0 + 18446744073709551616 * y1 + 340282366920938463463374607431768211456 * y2 + 6277101735386680763835789423207666416102355444464034512896 * y3)) := by
  replace K00 := K00.out
  replace K01 := K01.out
  replace K02 := K02.out
  replace K03 := K03.out
  replace K10 := K10.out
  replace K11 := K11.out
  replace K12 := K12.out
  replace K13 := K13.out
  replace K20 := K20.out
  replace K21 := K21.out
  replace K22 := K22.out
  replace K23 := K23.out
  replace K30 := K30.out
  replace K31 := K31.out
  replace K32 := K32.out
  replace K33 := K33.out
  refine Lib.hid ⟨rl00, rh00, rl10, rh10, rl20, rh20, rl30, rh30, rl31, rh31, rl32, rh32, rl33, rh33, vl33, vh33, ?_⟩
  rw [mul_expand]
  generalize x0 * y0 = p00 at *
  generalize x0 * y1 = p01 at *
  generalize x0 * y2 = p02 at *
  generalize x0 * y3 = p03 at *
  generalize x1 * y0 = p10 at *
  generalize x1 * y1 = p11 at *
  generalize x1 * y2 = p12 at *
  generalize x1 * y3 = p13 at *
  generalize x2 * y0 = p20 at *
  generalize x2 * y1 = p21 at *
  generalize x2 * y2 = p22 at *
  generalize x2 * y3 = p23 at *
  generalize x3 * y0 = p30 at *
  generalize x3 * y1 = p31 at *
  generalize x3 * y2 = p32 at *
  generalize x3 * y3 = p33 at *
  clear C00 A00 e00 B00 f00 rl00 rh00 vl00 vh00 C01 A01 e01 B01 f01 rl01 rh01 vl01 vh01 C02 A02 e02 B02 f02 rl02 rh02 vl02 vh02 C03 A03 e03 B03 f03 rl03 rh03 vl03 vh03 C10 A10 e10 B10 f10 rl10 rh10 vl10 vh10 C11 A11 e11 B11 f11 rl11 rh11 vl11 vh11 C12 A12 e12 B12 f12 rl12 rh12 vl12 vh12 C13 A13 e13 B13 f13 rl13 rh13 vl13 vh13 C20 A20 e20 B20 f20 rl20 rh20 vl20 vh20 C21 A21 e21 B21 f21 rl21 rh21 vl21 vh21 C22 A22 e22 B22 f22 rl22 rh22 vl22 vh22 C23 A23 e23 B23 f23 rl23 rh23 vl23 vh23 C30 A30 e30 B30 f30 rl30 rh30 vl30 vh30 C31 A31 e31 B31 f31 rl31 rh31 vl31 vh31 C32 A32 e32 B32 f32 rl32 rh32 vl32 vh32 C33 A33 e33 B33 f33 rl33 rh33 vl33 vh33
  omega
 have ix0 : ∀ w : World, (Instr.index 24 (.agg #[.int .u64 x0, .int .u64 x1, .int .u64 x2, .int .u64 x3]) (.int .i64 0)).run Try.prog w = .ok (.int .u64 x0) w := fun _ => by kernel_rfl
 have ix1 : ∀ w : World, (Instr.index 24 (.agg #[.int .u64 x0, .int .u64 x1, .int .u64 x2, .int .u64 x3]) (.int .i64 1)).run Try.prog w = .ok (.int .u64 x1) w := fun _ => by kernel_rfl
 have ix2 : ∀ w : World, (Instr.index 24 (.agg #[.int .u64 x0, .int .u64 x1, .int .u64 x2, .int .u64 x3]) (.int .i64 2)).run Try.prog w = .ok (.int .u64 x2) w := fun _ => by kernel_rfl
 have ix3 : ∀ w : World, (Instr.index 24 (.agg #[.int .u64 x0, .int .u64 x1, .int .u64 x2, .int .u64 x3]) (.int .i64 3)).run Try.prog w = .ok (.int .u64 x3) w := fun _ => by kernel_rfl
 have iy0 : ∀ w : World, (Instr.index 24 (.agg #[.int .u64 y0, .int .u64 y1, .int .u64 y2, .int .u64 y3]) (.int .i64 0)).run Try.prog w = .ok (.int .u64 y0) w := fun _ => by kernel_rfl
 have iy1 : ∀ w : World, (Instr.index 24 (.agg #[.int .u64 y0, .int .u64 y1, .int .u64 y2, .int .u64 y3]) (.int .i64 1)).run Try.prog w = .ok (.int .u64 y1) w := fun _ => by kernel_rfl
 have iy2 : ∀ w : World, (Instr.index 24 (.agg #[.int .u64 y0, .int .u64 y1, .int .u64 y2, .int .u64 y3]) (.int .i64 2)).run Try.prog w = .ok (.int .u64 y2) w := fun _ => by kernel_rfl
 have iy3 : ∀ w : World, (Instr.index 24 (.agg #[.int .u64 y0, .int .u64 y1, .int .u64 y2, .int .u64 y3]) (.int .i64 3)).run Try.prog w = .ok (.int .u64 y3) w := fun _ => by kernel_rfl
 go_enter Try.func70, Try.ntmps70
 go_wp2
 refine wp_loop_rounds 5 ?_
 rw [rounds_succ]
 go_wp2
 refine wp_loop_rounds 5 ?_
 rw [rounds_succ]
 go_wp2_with fail
 refine (C00.out _).mono ?_
 rintro e w' ⟨rfl, rfl⟩
 go_wp2
 rw [rounds_succ]
 go_wp2_with fail
 refine (C01.out _).mono ?_
 rintro e w' ⟨rfl, rfl⟩
 go_wp2
 rw [rounds_succ]
 go_wp2_with fail
 refine (C02.out _).mono ?_
 rintro e w' ⟨rfl, rfl⟩
 go_wp2
 rw [rounds_succ]
 go_wp2_with fail
 refine (C03.out _).mono ?_
 rintro e w' ⟨rfl, rfl⟩
 go_wp2
 rw [rounds_succ]
 go_wp2
 rw [rounds_succ]
 go_wp2
 refine wp_loop_rounds 5 ?_
 rw [rounds_succ]
 go_wp2_with fail
 refine (C10.out _).mono ?_
 rintro e w' ⟨rfl, rfl⟩
 go_wp2
 rw [rounds_succ]
 go_wp2_with fail
 refine (C11.out _).mono ?_
 rintro e w' ⟨rfl, rfl⟩
 go_wp2
 rw [rounds_succ]
 go_wp2_with fail
 refine (C12.out _).mono ?_
 rintro e w' ⟨rfl, rfl⟩
 go_wp2
 rw [rounds_succ]
 go_wp2_with fail
 refine (C13.out _).mono ?_
 rintro e w' ⟨rfl, rfl⟩
 go_wp2
 rw [rounds_succ]
 go_wp2
 rw [rounds_succ]
 go_wp2
 refine wp_loop_rounds 5 ?_
 rw [rounds_succ]
 go_wp2_with fail
 refine (C20.out _).mono ?_
 rintro e w' ⟨rfl, rfl⟩
 go_wp2
 rw [rounds_succ]
 go_wp2_with fail
 refine (C21.out _).mono ?_
 rintro e w' ⟨rfl, rfl⟩
 go_wp2
 rw [rounds_succ]
 go_wp2_with fail
 refine (C22.out _).mono ?_
 rintro e w' ⟨rfl, rfl⟩
 go_wp2
 rw [rounds_succ]
 go_wp2_with fail
 refine (C23.out _).mono ?_
 rintro e w' ⟨rfl, rfl⟩
 go_wp2
 rw [rounds_succ]
 go_wp2
 rw [rounds_succ]
 go_wp2
 refine wp_loop_rounds 5 ?_
 rw [rounds_succ]
 go_wp2_with fail
 refine (C30.out _).mono ?_
 rintro e w' ⟨rfl, rfl⟩
 go_wp2
 rw [rounds_succ]
 go_wp2_with fail
 refine (C31.out _).mono ?_
 rintro e w' ⟨rfl, rfl⟩
 go_wp2
 rw [rounds_succ]
 go_wp2_with fail
 refine (C32.out _).mono ?_
 rintro e w' ⟨rfl, rfl⟩
 go_wp2
 rw [rounds_succ]
 go_wp2_with fail
 refine (C33.out _).mono ?_
 rintro e w' ⟨rfl, rfl⟩
 go_wp2
 rw [rounds_succ]
 go_wp2
 rw [rounds_succ]
 go_wp2
 refine bodyPost_ret (v := .agg #[.int .u64 r00, .int .u64 r10, .int .u64 r20, .int .u64 r30, .int .u64 r31, .int .u64 r32, .int .u64 r33, .int .u64 v33]) (by simp [results, Try.results70, go_sem]) rfl ⟨r00, r10, r20, r30, r31, r32, r33, v33, rfl, HH, ?_⟩
 repeat (first | exact Below.refl _ _ | refine Below.drew ?_ | refine Below.alloc ?_ (by first | (simp; done) | (simp; omega)) _)
/-- limb.Mul -/
theorem mul_calls {va vb : Value} {a b : Nat} (ha : IsNum va a) (hb : IsNum vb b) (w : World) :
  Calls Try.prog 70 #[va, vb] w fun e w' => e = .returned (wideV (a * b)) ∧ Below w.heap.size w w' := by
 obtain ⟨rfl, ha⟩ := ha
 obtain ⟨rfl, hb⟩ := hb
 have a0 := wd0_lt a; have a1 := wd1_lt a; have a2 := wd2_lt a; have a3 := wd3_lt a
 have b0 := wd0_lt b; have b1 := wd1_lt b; have b2 := wd2_lt b; have b3 := wd3_lt b
 have ea := val_wd ha
 have eb := val_wd hb
 rw [numV_def, numV_def]
 generalize wd0 a = x0 at *
 generalize wd1 a = x1 at *
 generalize wd2 a = x2 at *
 generalize wd3 a = x3 at *
 generalize wd0 b = y0 at *
 generalize wd1 b = y1 at *
 generalize wd2 b = y2 at *
 generalize wd3 b = y3 at *
 unfold N64 at a0 a1 a2 a3 b0 b1 b2 b3
 refine (mul_walk x0 x1 x2 x3 y0 y1 y2 y3 w (by omega) (by omega) (by omega) (by omega) (by omega) (by omega) (by omega) (by omega) (by omega) (by omega) (by omega) (by omega) (by omega) (by omega) (by omega) (by omega)).mono ?_
 rintro e w' ⟨r0, r1, r2, r3, r4, r5, r6, r7, rfl, H, hw⟩
 refine ⟨?_, hw⟩
 clear hw w w'
 replace H := H.out
 obtain ⟨l0, u0, l1, u1, l2, u2, l3, u3, l4, u4, l5, u5, l6, u6, l7, u7, H⟩ := H
 obtain ⟨s0, rfl⟩ := Int.eq_ofNat_of_zero_le l0
 obtain ⟨s1, rfl⟩ := Int.eq_ofNat_of_zero_le l1
 obtain ⟨s2, rfl⟩ := Int.eq_ofNat_of_zero_le l2
 obtain ⟨s3, rfl⟩ := Int.eq_ofNat_of_zero_le l3
 obtain ⟨s4, rfl⟩ := Int.eq_ofNat_of_zero_le l4
 obtain ⟨s5, rfl⟩ := Int.eq_ofNat_of_zero_le l5
 obtain ⟨s6, rfl⟩ := Int.eq_ofNat_of_zero_le l6
 obtain ⟨s7, rfl⟩ := Int.eq_ofNat_of_zero_le l7
 rw [wideV_of (x0 := s0) (x1 := s1) (x2 := s2) (x3 := s3) (x4 := s4) (x5 := s5) (x6 := s6) (x7 := s7) (by unfold N64; omega) (by unfold N64; omega) (by unfold N64; omega) (by unfold N64; omega) (by unfold N64; omega) (by unfold N64; omega) (by unfold N64; omega) (by unfold N64; omega)]
 have e1 : ((a * b : Nat) : Int) = (x0 + 18446744073709551616 * x1 + 340282366920938463463374607431768211456 * x2 + 6277101735386680763835789423207666416102355444464034512896 * x3) * (y0 + 18446744073709551616 * y1 + 340282366920938463463374607431768211456 * y2 + 6277101735386680763835789423207666416102355444464034512896 * y3) := by
  rw [← ea, ← eb, Int.natCast_mul]
  unfold val4
  simp only [Int.natCast_add, Int.natCast_mul]
  rfl
 have e2 : val8 s0 s1 s2 s3 s4 s5 s6 s7 = a * b := by
  rw [← H] at e1
  clear H ea eb
  generalize a * b = p at *
  unfold val8
  omega
 rw [e2]
end Go.Proofs.Ytkfjhndofbmhoaa
