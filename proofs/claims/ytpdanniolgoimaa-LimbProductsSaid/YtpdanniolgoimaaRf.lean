/- clapperref01.Wide, Mul: part by part. No condition but that both numbers are below 2^256. -/
import Derived.Test.YtpdanniolgoimaaRb
import Derived.Test.YtpdanniolgoimaaRc
import Derived.Test.YtpdanniolgoimaaRd
namespace Go.Proofs.Ytpdanniolgoimaa
open Go.RowKit
set_option linter.unusedVariables false
set_option linter.unusedSimpArgs false

def fnU (f : Nat → Nat) (m : Nat) : List Value := (List.range m).map fun j => .int .u64 (f j : Nat)
theorem fnU_length (f : Nat → Nat) (m : Nat) : (fnU f m).length = m := by simp [fnU]
theorem fnU_get (f : Nat → Nat) (m j : Nat) (h : j < m) : (fnU f m)[j]? = some (.int .u64 (f j : Nat)) := by simp [fnU, h]
theorem fnU_congr {f g : Nat → Nat} {m : Nat} (h : ∀ j, j < m → f j = g j) : fnU f m = fnU g m := by
  unfold fnU
  apply List.map_congr_left
  intro j hj
  rw [h j (List.mem_range.1 hj)]
theorem fnU_set (f g : Nat → Nat) (m k : Nat) : (fnU (mix f g k) m).set k (.int .u64 (f k : Nat)) = fnU (mix f g (k + 1)) m := by
  apply List.ext_getElem?
  intro j
  rw [List.getElem?_set, fnU_length]
  by_cases hj : j < m
  · rw [fnU_get _ _ _ hj, fnU_get _ _ _ hj]
    by_cases hk : k = j
    · subst hk; rw [if_pos rfl, if_pos hj]; unfold mix; rw [if_pos (by omega)]
    · rw [if_neg hk]; unfold mix
      by_cases h2 : j < k
      · rw [if_pos h2, if_pos (by omega)]
      · rw [if_neg h2, if_neg (by omega)]
  · have h1 : ∀ f : Nat → Nat, (fnU f m)[j]? = none := fun f => List.getElem?_eq_none (by rw [fnU_length]; omega)
    rw [h1, h1]
    split
    · rw [if_neg (by omega)]
    · rfl
theorem Rw.eight {w : World} {e : TypeId} {g : Nat} {x0 x1 x2 x3 x4 x5 x6 x7 : Value} (h : Rw w e g [x0, x1, x2, x3, x4, x5, x6, x7]) :
    w.cell? ⟨g, 0, none⟩ = some x0 ∧ w.cell? ⟨g, 1, none⟩ = some x1 ∧ w.cell? ⟨g, 2, none⟩ = some x2 ∧ w.cell? ⟨g, 3, none⟩ = some x3 ∧ w.cell? ⟨g, 4, none⟩ = some x4 ∧ w.cell? ⟨g, 5, none⟩ = some x5 ∧ w.cell? ⟨g, 6, none⟩ = some x6 ∧ w.cell? ⟨g, 7, none⟩ = some x7 :=
  ⟨h.cell rfl, h.cell rfl, h.cell rfl, h.cell rfl, h.cell rfl, h.cell rfl, h.cell rfl, h.cell rfl⟩
def wq (n q : Nat) : Nat := n / 65536 ^ (4 * q) % 18446744073709551616
theorem wideV_wq (n : Nat) : wideV (n % N512) = .agg (fnU (wq n) 8).toArray := by
  have e0 : wd0 (n % N512) = wq n 0 := by unfold wd0 N512 wq; simp only [Nat.reducePow, Nat.reduceMul]; omega
  have e1 : wd1 (n % N512) = wq n 1 := by unfold wd1 N512 wq; simp only [Nat.reducePow, Nat.reduceMul]; omega
  have e2 : wd2 (n % N512) = wq n 2 := by unfold wd2 N512 wq; simp only [Nat.reducePow, Nat.reduceMul]; omega
  have e3 : wd3 (n % N512) = wq n 3 := by unfold wd3 N512 wq; simp only [Nat.reducePow, Nat.reduceMul]; omega
  have e4 : wd4 (n % N512) = wq n 4 := by unfold wd4 N512 wq; simp only [Nat.reducePow, Nat.reduceMul]; omega
  have e5 : wd5 (n % N512) = wq n 5 := by unfold wd5 N512 wq; simp only [Nat.reducePow, Nat.reduceMul]; omega
  have e6 : wd6 (n % N512) = wq n 6 := by unfold wd6 N512 wq; simp only [Nat.reducePow, Nat.reduceMul]; omega
  have e7 : wd7 (n % N512) = wq n 7 := by unfold wd7 N512 wq; simp only [Nat.reducePow, Nat.reduceMul]; omega
  rw [wideV_def, e0, e1, e2, e3, e4, e5, e6, e7]
  rfl
set_option maxRecDepth 100000 in
set_option maxHeartbeats 800000 in
/-- clapperref01.Wide -/
theorem rwide_calls {w : World} {g cap n : Nat} (h : Rw w 3 g (ptL n 32)) :
    Calls Try.prog 34 #[.slice (some ⟨g, 0, none⟩) 32 cap] w fun e w' => e = .returned (wideV (n % N512)) ∧ Below w.heap.size w w' := by
  have hz := h.size
  have HH := Lib.hid h
  have HW := Lib.hid (wideV_wq n)
  clear h
  rw [HW.out]
  clear HW
  go_enter Try.func34, Try.ntmps34
  go_wp2
  go_loopw [4] (fun i wr => ∃ k : Nat, k ≤ 8 ∧ i = .int .i64 k ∧ Hid (Rw wr 3 g (ptL n 32)) ∧ Hid (Rw wr 40 (w.heap.size + 1) (fnU (mix (wq n) (fun _ => 0) k) 8)) ∧ Hid (Rw wr 40 w.heap.size [.int .u64 0, .int .u64 0, .int .u64 0, .int .u64 0, .int .u64 0, .int .u64 0, .int .u64 0, .int .u64 0]) ∧ Below w.heap.size w wr)
    (fun i _ => 8 - (intOf i).toNat)
  case atStart =>
    refine ⟨0, Nat.zero_le _, rfl, Lib.hid ((HH.out.alloc _).alloc _), Lib.hid ?_, Lib.hid ?_, by repeat (first | exact Below.refl _ _ | refine Below.drew ?_ | refine below_drewN ?_ _ | refine Below.alloc ?_ (by first | (simp; done) | (simp; omega)) _)⟩
    · exact Rw.new (by simp)
    · exact (Rw.new rfl).alloc _
  case round =>
    obtain ⟨k, hk, rfl, HX, HY, HZ, hB⟩ := hrel
    by_cases hk8 : k < 8
    · have hwp := word_pt (at_ := 4 * k) (cap := cap) HX.out (by omega) (by omega)
      rw [show ((4 * k : Nat) : Int) = 4 * (k : Int) by omega, show n / 65536 ^ (4 * k) % 18446744073709551616 = wq n k from rfl] at hwp
      have HWP := Lib.hid hwp
      clear hwp
      go_wp2_with fail
      refine HWP.out.mono ?_
      rintro e w1 ⟨rfl, hb1⟩
      have HX2 := Lib.hid (HX.out.below hb1 HX.out.size)
      have hy := HY.out.below hb1 HY.out.size
      have HZ2 := Lib.hid (HZ.out.below hb1 HZ.out.size)
      have hB2 : Below w.heap.size w w1 := hB.trans (hb1.mono (by have := hB.size; omega))
      have cy := hy.cell (fnU_get _ _ _ hk8)
      have fy := hy.free k
      have HY2 := Lib.hid hy
      have hgne : g ≠ w.heap.size + 1 := by omega
      clear hb1 hy HX HY HZ HWP
      go_wp2
      go_roundw
      case rel =>
        refine ⟨k + 1, by omega, by go_num, Lib.hid ?_, Lib.hid ?_, Lib.hid ?_, ?_⟩
        · exact HX2.out.set_other (by simpa using hgne) _
        · rw [← fnU_set]; exact HY2.out.set k _
        · exact HZ2.out.set_other (by simp) _
        · exact hB2.setCell (by simp) _
      case measure => simp [intOf]; omega
    · have hk9 : k = 8 := by omega
      subst hk9
      have hy : Rw wr 40 (w.heap.size + 1) [.int .u64 (wq n 0 : Nat), .int .u64 (wq n 1 : Nat), .int .u64 (wq n 2 : Nat), .int .u64 (wq n 3 : Nat), .int .u64 (wq n 4 : Nat), .int .u64 (wq n 5 : Nat), .int .u64 (wq n 6 : Nat), .int .u64 (wq n 7 : Nat)] := HY.out
      obtain ⟨y0, y1, y2, y3, y4, y5, y6, y7⟩ := hy.eight
      obtain ⟨c0, c1, c2, c3, c4, c5, c6, c7⟩ := HZ.out.eight
      have z0 := HZ.out.free 0
      have z1 := HZ.out.free 1
      have z2 := HZ.out.free 2
      have z3 := HZ.out.free 3
      have z4 := HZ.out.free 4
      have z5 := HZ.out.free 5
      have z6 := HZ.out.free 6
      have z7 := HZ.out.free 7
      have hz3 := HZ.out.size
      clear hy
      go_wp2
      refine bodyPost_ret (v := .agg #[.int .u64 (wq n 0 : Nat), .int .u64 (wq n 1 : Nat), .int .u64 (wq n 2 : Nat), .int .u64 (wq n 3 : Nat), .int .u64 (wq n 4 : Nat), .int .u64 (wq n 5 : Nat), .int .u64 (wq n 6 : Nat), .int .u64 (wq n 7 : Nat)]) (by simp [results, Try.results34, go_sem, c0, c1, c2, c3, c4, c5, c6, c7]) rfl ⟨rfl, ?_⟩
      repeat (first | (with_reducible exact hB) | refine Below.setCell ?_ (by simp) _)

/-- the carry of a row of products -/
def cm (p x b : Nat) : Nat → Nat
  | 0 => 0
  | k + 1 => (pt p k + x * pt b k + cm p x b k) / 65536
theorem cm_le (p x b : Nat) (hx : x < 65536) : ∀ k, cm p x b k ≤ 65535
  | 0 => by simp [cm]
  | k + 1 => by
    have h1 := pt_lt p k
    have h2 := cm_le p x b hx k
    have h3 : x * pt b k ≤ 65535 * 65535 := Nat.mul_le_mul (by omega) (by have := pt_lt b k; omega)
    simp only [cm]
    omega
theorem cm_eq (p x b : Nat) : ∀ k, (p + x * (b % 65536 ^ k)) / 65536 ^ k = p / 65536 ^ k + cm p x b k
  | 0 => by simp [cm, Nat.mod_one]
  | k + 1 => by
    have ih := cm_eq p x b k
    have hp := pow_pos' k
    rw [mod_up, Nat.pow_succ, ← Nat.div_div_eq_div_mul, ← Nat.div_div_eq_div_mul]
    have e : p + x * (b % 65536 ^ k + 65536 ^ k * pt b k) = (p + x * (b % 65536 ^ k)) + 65536 ^ k * (x * pt b k) := by rw [Nat.mul_add, Nat.mul_left_comm]; omega
    rw [e, Nat.add_mul_div_left _ _ hp, ih]
    simp only [cm, pt]
    omega
/-- the product so far, behind i rows -/
def pr (a b i : Nat) : Nat := a % 65536 ^ i * b
theorem pr_next (a b i : Nat) : pr a b (i + 1) = pr a b i % 65536 ^ i + 65536 ^ i * (pr a b i / 65536 ^ i + pt a i * b) := by
  have h := Nat.mod_add_div (pr a b i) (65536 ^ i)
  have e : pr a b (i + 1) = pr a b i + 65536 ^ i * (pt a i * b) := by unfold pr; rw [mod_up, Nat.add_mul, Nat.mul_assoc]
  rw [e, Nat.mul_add]; omega
theorem pt_low (r M q i j : Nat) (hM : M = 65536 ^ i) (hj : j < i) : pt (r + M * q) j = pt r j := by
  subst hM
  unfold pt
  have e : 65536 ^ i = 65536 ^ j * (65536 * 65536 ^ (i - j - 1)) := by rw [← Nat.pow_succ', ← Nat.pow_add]; congr 1; omega
  rw [e, Nat.mul_assoc, Nat.add_mul_div_left _ _ (pow_pos' j), Nat.mul_assoc, Nat.add_mul_mod_self_left]
theorem pt_high (r q i k : Nat) (hr : r < 65536 ^ i) : pt (r + 65536 ^ i * q) (i + k) = pt q k := by
  rw [pt_up, Nat.add_mul_div_left _ _ (pow_pos' i), Nat.div_eq_of_lt hr, Nat.zero_add]; rfl
theorem pt_of_lt (n j : Nat) (h : n < 65536 ^ j) : pt n j = 0 := by unfold pt; rw [Nat.div_eq_of_lt h]
theorem L1 (a b i j : Nat) (hj : j < i) : pt (pr a b (i + 1)) j = pt (pr a b i) j := by
  rw [pr_next, pt_low _ _ _ i j rfl hj]
  conv => rhs; rw [← Nat.mod_add_div (pr a b i) (65536 ^ i)]
  rw [pt_low _ _ _ i j rfl hj]
theorem L0 (a b i k : Nat) : pt (pr a b i) (i + k) = pt (pr a b i / 65536 ^ i) k := by rw [pt_up]; rfl
theorem pt_mod (q k : Nat) : pt q k = pt (q % 65536 ^ (k + 1)) k := by
  rw [mod_up]
  unfold pt
  rw [Nat.add_mul_div_left _ _ (pow_pos' k), Nat.div_eq_of_lt (Nat.mod_lt _ (pow_pos' k))]
  omega
theorem L2 (a b i k : Nat) : pt (pr a b (i + 1)) (i + k) = (pt (pr a b i / 65536 ^ i) k + pt a i * pt b k + cm (pr a b i / 65536 ^ i) (pt a i) b k) % 65536 := by
  rw [pr_next, pt_high _ _ _ _ (Nat.mod_lt _ (pow_pos' i))]
  generalize pr a b i / 65536 ^ i = p
  generalize pt a i = x
  have hc := cm_eq p x b k
  have hp := pow_pos' k
  have eb : b = b % 65536 ^ k + 65536 ^ k * (b / 65536 ^ k) := (Nat.mod_add_div b (65536 ^ k)).symm
  have e : p + x * b = (p + x * (b % 65536 ^ k)) + 65536 ^ k * (x * (b / 65536 ^ k)) := by
    conv => lhs; rw [eb]
    rw [Nat.mul_add, Nat.mul_left_comm]; omega
  unfold pt at *
  rw [e, Nat.add_mul_div_left _ _ hp, hc]
  generalize p / 65536 ^ k = u
  generalize b / 65536 ^ k = v
  generalize cm p x b k = c
  have : x * v = x * (v % 65536) + 65536 * (x * (v / 65536)) := by
    conv => lhs; rw [← Nat.mod_add_div v 65536]
    rw [Nat.mul_add, Nat.mul_left_comm]
  omega
theorem pr_lt (a b i : Nat) (hb : b < N256) : pr a b i < 65536 ^ (i + 16) := by
  unfold pr
  have e : 65536 ^ 16 = N256 := by unfold N256; decide
  rw [Nat.pow_add, e]
  by_cases h0 : a % 65536 ^ i = 0
  · rw [h0, Nat.zero_mul]; exact Nat.mul_pos (pow_pos' i) N256_pos
  · exact Nat.mul_lt_mul'' (Nat.mod_lt _ (pow_pos' i)) hb
theorem L3 (a b i : Nat) (hb : b < N256) : pt (pr a b (i + 1)) (i + 16) = cm (pr a b i / 65536 ^ i) (pt a i) b 16 := by
  have hl := pr_lt a b i hb
  rw [pr_next, pt_high _ _ _ _ (Nat.mod_lt _ (pow_pos' i))]
  have hpl : pr a b i / 65536 ^ i < 65536 ^ 16 := by
    rw [Nat.pow_add] at hl
    exact (Nat.div_lt_iff_lt_mul (pow_pos' i)).2 (by rw [Nat.mul_comm]; exact hl)
  have hx := pt_lt a i
  generalize pr a b i / 65536 ^ i = p at *
  generalize pt a i = x at *
  have hc := cm_eq p x b 16
  have e : 65536 ^ 16 = N256 := by unfold N256; decide
  rw [Nat.mod_eq_of_lt (by rw [e]; exact hb), Nat.div_eq_of_lt hpl, Nat.zero_add] at hc
  have hle := cm_le p x b hx 16
  unfold pt
  rw [hc]; omega
theorem L4 (a b i j : Nat) (hb : b < N256) (hj : i + 17 ≤ j) : pt (pr a b (i + 1)) j = pt (pr a b i) j := by
  have h1 := pr_lt a b (i + 1) hb
  have h2 := pr_lt a b i hb
  have m1 : 65536 ^ (i + 1 + 16) ≤ 65536 ^ j := Nat.pow_le_pow_right (by omega) (by omega)
  have m2 : 65536 ^ (i + 16) ≤ 65536 ^ j := Nat.pow_le_pow_right (by omega) (by omega)
  rw [pt_of_lt _ _ (by omega), pt_of_lt _ _ (by omega)]
theorem mix_row0 (a b i : Nat) : fnL (mix (pt (pr a b (i + 1))) (pt (pr a b i)) i) 32 = ptL (pr a b i) 32 := fnL_congr fun j _ => by
  unfold mix
  split
  · exact L1 a b i j ‹_›
  · rfl
theorem mix_row17 (a b i : Nat) (hb : b < N256) : fnL (mix (pt (pr a b (i + 1))) (pt (pr a b i)) (i + 17)) 32 = ptL (pr a b (i + 1)) 32 := fnL_congr fun j _ => by
  unfold mix
  split
  · rfl
  · rw [L4 a b i j hb (by omega)]
theorem pr_end (a b : Nat) (ha : a < N256) : pr a b 16 = a * b := by
  unfold pr
  have e : 65536 ^ 16 = N256 := by unfold N256; decide
  rw [e, Nat.mod_eq_of_lt ha]

set_option maxRecDepth 100000 in
set_option maxHeartbeats 3200000 in
/-- clapperref01.Mul -/
theorem rmul_calls {va vb : Value} {a b : Nat} (ha : IsNum va a) (hb : IsNum vb b) (w : World) :
    Calls Try.prog 22 #[va, vb] w fun e w' => e = .returned (wideV (a * b)) ∧ Below w.heap.size w w' := by
  have HE := Lib.hid (pr_end a b ha.2)
  have HBL := Lib.hid hb.2
  have hm : a * b % N512 = a * b := Nat.mod_eq_of_lt (mul_lt512 ha.2 hb.2)
  have HM := Lib.hid hm
  obtain ⟨rfl, ha⟩ := ha
  obtain ⟨rfl, hb⟩ := hb
  have P0 := fun w => parts_calls (IsNum.mk ha) w
  have P1 := fun w => parts_calls (IsNum.mk hb) w
  rw [numV_def] at P0 P1
  have K0 := Lib.hid P0; have K1 := Lib.hid P1
  clear P0 P1 hm ha hb
  rw [numV_def, numV_def, wideV_def]
  have hmk : ∀ w : World, (Instr.makeSlice 45 (.int .i64 32) (.int .i64 32)).run Try.prog w = .ok (.slice (some ⟨w.heap.size, 0, none⟩) 32 32) (w.alloc (.cells #[.int .i64 0, .int .i64 0, .int .i64 0, .int .i64 0, .int .i64 0, .int .i64 0, .int .i64 0, .int .i64 0, .int .i64 0, .int .i64 0, .int .i64 0, .int .i64 0, .int .i64 0, .int .i64 0, .int .i64 0, .int .i64 0, .int .i64 0, .int .i64 0, .int .i64 0, .int .i64 0, .int .i64 0, .int .i64 0, .int .i64 0, .int .i64 0, .int .i64 0, .int .i64 0, .int .i64 0, .int .i64 0, .int .i64 0, .int .i64 0, .int .i64 0, .int .i64 0] 3)) := fun _ => by kernel_rfl
  go_enter Try.func22, Try.ntmps22
  go_wp2_with fail
  refine (K0.out _).mono ?_
  rintro e w1 ⟨gx, cx, rfl, hgx, hcx, rx, hb1⟩
  have hs1 : w.heap.size + 3 ≤ w1.heap.size := by have := hb1.size; simp at this; omega
  have hgx' : w.heap.size + 3 ≤ gx := by simp at hgx; omega
  have ry := ((Rw.new (n := w.heap.size + 1) (by simp)).alloc _).below hb1 (by simp)
  have rz := (Rw.new (n := w.heap.size + 2) (by simp)).below hb1 (by simp)
  obtain ⟨cy0, cy1, cy2, cy3⟩ := ry.four
  have hB1 : Below w.heap.size w w1 := (show Below w.heap.size w _ from by repeat (first | exact Below.refl _ _ | refine Below.drew ?_ | refine below_drewN ?_ _ | refine Below.alloc ?_ (by first | (simp; done) | (simp; omega)) _)).trans (hb1.mono (by simp; omega))
  have RX := Lib.hid rx; have RZ := Lib.hid rz
  have hzx := rx.size
  clear rx ry rz hb1 hgx
  go_wp2_with fail
  refine (K1.out _).mono ?_
  rintro e w2 ⟨gy, cy, rfl, hgy, hcy, ry, hb2⟩
  have RX2 := Lib.hid (RX.out.below hb2 RX.out.size)
  have RZ2 := Lib.hid (RZ.out.below hb2 RZ.out.size)
  have hB2 := hB1.trans (hb2.mono (by omega))
  have hs2 : w.heap.size + 3 ≤ w2.heap.size := by have := hb2.size; omega
  have RY2 := Lib.hid ry
  have hxy : gx < gy := by omega
  have hzy := ry.size
  clear ry hb2 RX RZ hgy cy0 cy1 cy2 cy3 hB1 hs1 hzx
  go_wp2
  go_loopw [8] (fun i wr => ∃ k : Nat, k ≤ 16 ∧ i = .int .i64 k ∧ Hid (Rw wr 3 w2.heap.size (ptL (pr a b k) 32)) ∧ Hid (Rw wr 3 gx (ptL a 16)) ∧ Hid (Rw wr 3 gy (ptL b 16)) ∧ Hid (Rw wr 40 (w.heap.size + 2) [.int .u64 0, .int .u64 0, .int .u64 0, .int .u64 0, .int .u64 0, .int .u64 0, .int .u64 0, .int .u64 0]) ∧ Below w.heap.size w wr)
    (fun i _ => 16 - (intOf i).toNat)
  case atStart =>
    refine ⟨0, Nat.zero_le _, rfl, Lib.hid ?_, Lib.hid (RX2.out.alloc _), Lib.hid (RY2.out.alloc _), Lib.hid (RZ2.out.alloc _), hB2.alloc (by omega) _⟩
    have e : ptL (pr a b 0) 32 = [.int .i64 0, .int .i64 0, .int .i64 0, .int .i64 0, .int .i64 0, .int .i64 0, .int .i64 0, .int .i64 0, .int .i64 0, .int .i64 0, .int .i64 0, .int .i64 0, .int .i64 0, .int .i64 0, .int .i64 0, .int .i64 0, .int .i64 0, .int .i64 0, .int .i64 0, .int .i64 0, .int .i64 0, .int .i64 0, .int .i64 0, .int .i64 0, .int .i64 0, .int .i64 0, .int .i64 0, .int .i64 0, .int .i64 0, .int .i64 0, .int .i64 0, .int .i64 0] := by
      have : pr a b 0 = 0 := by unfold pr; rw [Nat.pow_zero, Nat.mod_one, Nat.zero_mul]
      rw [this]
      have : ptL 0 32 = fnL (fun _ => 0) 32 := fnL_congr fun j _ => by unfold pt; rw [Nat.zero_div]
      rw [this]; rfl
    rw [e]
    exact Rw.new rfl
  case round =>
    obtain ⟨i, hi, rfl, HO, HX, HY, HZ, hB⟩ := hrel
    by_cases hi16 : i < 16
    · have hid : decide ((i : Int) < 16) = true := by simp; omega
      have hbs := hB.size
      go_wp2
      obtain ⟨wo, rfl⟩ : ∃ wo : World, wo = wr := ⟨_, rfl⟩
      go_loopw [9, 10] (fun c q wr => ∃ k : Nat, k ≤ 16 ∧ q = .int .i64 k ∧ c = .int .i64 (cm (pr a b i / 65536 ^ i) (pt a i) b k : Nat) ∧ Hid (Rw wr 3 w2.heap.size (fnL (mix (pt (pr a b (i + 1))) (pt (pr a b i)) (i + k)) 32)) ∧ Hid (Rw wr 3 gx (ptL a 16)) ∧ Hid (Rw wr 3 gy (ptL b 16)) ∧ Hid (Rw wr 40 (w.heap.size + 2) [.int .u64 0, .int .u64 0, .int .u64 0, .int .u64 0, .int .u64 0, .int .u64 0, .int .u64 0, .int .u64 0]) ∧ Below w.heap.size w wr)
        (fun _ q _ => 16 - (intOf q).toNat)
      case atStart =>
        exact ⟨0, Nat.zero_le _, rfl, rfl, Lib.hid (by have h := HO.out; rw [← mix_row0] at h; exact h), HX, HY, HZ, hB⟩
      case round =>
        obtain ⟨k, hk, rfl, rfl, HO2, HX2, HY2, HZ2, hB2'⟩ := hrel
        have hx := pt_lt a i
        have hc := cm_le (pr a b i / 65536 ^ i) (pt a i) b hx k
        by_cases hk16 : k < 16
        · have co := HO2.out.cell (fnL_get _ _ (i + k) (by omega))
          rw [mix_here] at co
          have fo := HO2.out.free (i + k)
          have cx := HX2.out.cell (ptL_get _ _ _ hi16)
          have cy := HY2.out.cell (ptL_get _ _ _ hk16)
          have hy := pt_lt b k
          have ho := pt_lt (pr a b i) (i + k)
          have hmul : pt a i * pt b k ≤ 65535 * 65535 := Nat.mul_le_mul (by omega) (by omega)
          have hL2 := L2 a b i k
          rw [← L0] at hL2
          have HL2 := Lib.hid hL2
          have hcn : cm (pr a b i / 65536 ^ i) (pt a i) b (k + 1) = (pt (pr a b i) (i + k) + pt a i * pt b k + cm (pr a b i / 65536 ^ i) (pt a i) b k) / 65536 := by rw [L0]; rfl
          have HCN := Lib.hid hcn
          have hbs2 := hB2'.size
          have hm0 : 0 ≤ ((pt a i : Nat) : Int) * (pt b k : Nat) := by rw [← Int.natCast_mul]; exact Int.natCast_nonneg _
          have hm1 : ((pt a i : Nat) : Int) * (pt b k : Nat) ≤ 4294836225 := by rw [← Int.natCast_mul]; omega
          have HMC := Lib.hid (Int.natCast_mul (pt a i) (pt b k))
          clear hL2 hcn hmul
          go_wp2
          go_quiet (fail)
          go_wp2
          go_roundw
          case rel =>
            have HMC2 := HMC.out
            refine ⟨k + 1, by omega, by go_num, by rw [HCN.out]; refine congrArg _ ?_; rw [Int.natCast_ediv, Int.natCast_add, Int.natCast_add, HMC.out]; rfl, Lib.hid ?_, Lib.hid ?_, Lib.hid ?_, Lib.hid ?_, ?_⟩
            · rw [show i + (k + 1) = i + k + 1 from rfl, ← mix_set]
              have h := (HO2.out.drewN nq).set (i + k) (.int .i64 (pt (pr a b (i + 1)) (i + k) : Nat))
              have e2 : (((pt (pr a b i) (i + k) : Nat) : Int) + ((pt a i : Nat) : Int) * (pt b k : Nat) + (cm (pr a b i / 65536 ^ i) (pt a i) b k : Nat)) % 65536 = ((pt (pr a b (i + 1)) (i + k) : Nat) : Int) := by
                rw [HL2.out, Int.natCast_emod, Int.natCast_add, Int.natCast_add, HMC.out]; rfl
              rw [e2]
              exact h
            · exact (HX2.out.drewN _).set_other (by simp; omega) _
            · exact (HY2.out.drewN _).set_other (by simp; omega) _
            · exact (HZ2.out.drewN _).set_other (by simp; omega) _
            · exact (below_drewN hB2' _).setCell (by simp; omega) _
          case measure => simp [intOf]; omega
        · have hk17 : k = 16 := by omega
          subst hk17
          have co := HO2.out.cell (fnL_get _ _ (i + 16) (by omega))
          rw [mix_here] at co
          have fo := HO2.out.free (i + 16)
          have hL3 := L3 a b i HBL.out
          have HL3 := Lib.hid hL3
          have hbs2 := hB2'.size
          clear hL3
          go_wp2
          go_roundw
          case rel =>
            refine ⟨i + 1, by omega, by go_num, Lib.hid ?_, Lib.hid ?_, Lib.hid ?_, Lib.hid ?_, ?_⟩
            · rw [← mix_row17 a b i HBL.out, show i + 17 = i + 16 + 1 from rfl, ← mix_set, HL3.out]
              exact HO2.out.set (i + 16) _
            · exact HX2.out.set_other (by simp; omega) _
            · exact HY2.out.set_other (by simp; omega) _
            · exact HZ2.out.set_other (by simp; omega) _
            · exact hB2'.setCell (by simp; omega) _
          case measure => simp [intOf]; omega
    · have hi17 : i = 16 := by omega
      subst hi17
      have ho := HO.out
      rw [HE.out] at ho
      have hn := rwide_calls (cap := 32) ho
      rw [HM.out, wideV_def] at hn
      have HN := Lib.hid hn
      clear ho hn
      go_wp2_with fail
      refine HN.out.mono ?_
      rintro e w3 ⟨rfl, hb3⟩
      have rz3 := HZ.out.below hb3 HZ.out.size
      obtain ⟨c0, c1, c2, c3, c4, c5, c6, c7⟩ := rz3.eight
      have z0 := rz3.free 0
      have z1 := rz3.free 1
      have z2 := rz3.free 2
      have z3 := rz3.free 3
      have z4 := rz3.free 4
      have z5 := rz3.free 5
      have z6 := rz3.free 6
      have z7 := rz3.free 7
      have hz3 := rz3.size
      have hB3 := hB.trans (hb3.mono (by have := HZ.out.size; omega))
      clear rz3 hb3
      go_wp2
      refine bodyPost_ret (v := .agg #[.int .u64 (wd0 (a * b) : Nat), .int .u64 (wd1 (a * b) : Nat), .int .u64 (wd2 (a * b) : Nat), .int .u64 (wd3 (a * b) : Nat), .int .u64 (wd4 (a * b) : Nat), .int .u64 (wd5 (a * b) : Nat), .int .u64 (wd6 (a * b) : Nat), .int .u64 (wd7 (a * b) : Nat)]) (by simp [results, Try.results22, go_sem, c0, c1, c2, c3, c4, c5, c6, c7]) rfl ⟨rfl, ?_⟩
      repeat (first | (with_reducible exact hB3) | refine Below.setCell ?_ (by simp; omega) _)
end Go.Proofs.Ytpdanniolgoimaa
