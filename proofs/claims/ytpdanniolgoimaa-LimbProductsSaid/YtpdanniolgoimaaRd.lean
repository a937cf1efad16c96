/- clapperref01.Add, Sub: part by part. No condition but that both are below 2^256. -/
import Derived.Test.YtpdanniolgoimaaRb
import Derived.Test.YtpdanniolgoimaaRc
namespace Go.Proofs.Ytpdanniolgoimaa
open Go.RowKit
set_option linter.unusedVariables false
set_option linter.unusedSimpArgs false

/-- what is carried into part k of a sum -/
def car (a b k : Nat) : Nat := (a % 65536 ^ k + b % 65536 ^ k) / 65536 ^ k
theorem pow_pos' (k : Nat) : 0 < 65536 ^ k := Nat.pow_pos (by omega)
theorem car_le (a b k : Nat) : car a b k ≤ 1 := by
  unfold car
  have hp := pow_pos' k
  have h1 := Nat.mod_lt a hp
  have h2 := Nat.mod_lt b hp
  have : (a % 65536 ^ k + b % 65536 ^ k) / 65536 ^ k < 2 := (Nat.div_lt_iff_lt_mul hp).2 (by omega)
  omega
theorem mod_up (a k : Nat) : a % 65536 ^ (k + 1) = a % 65536 ^ k + 65536 ^ k * pt a k := by
  unfold pt; rw [Nat.pow_succ, Nat.mod_mul]
theorem car_next (a b k : Nat) : car a b (k + 1) = (pt a k + pt b k + car a b k) / 65536 := by
  unfold car
  rw [mod_up, mod_up, Nat.pow_succ, ← Nat.div_div_eq_div_mul]
  have hp := pow_pos' k
  have e : a % 65536 ^ k + 65536 ^ k * pt a k + (b % 65536 ^ k + 65536 ^ k * pt b k) = (a % 65536 ^ k + b % 65536 ^ k) + 65536 ^ k * (pt a k + pt b k) := by rw [Nat.mul_add]; omega
  rw [e, Nat.add_mul_div_left _ _ hp]
  congr 1; omega
theorem pt_sum (a b k : Nat) : pt (a + b) k = (pt a k + pt b k + car a b k) % 65536 := by
  unfold pt car
  have hp := pow_pos' k
  have e : a + b = (a % 65536 ^ k + b % 65536 ^ k) + 65536 ^ k * (a / 65536 ^ k + b / 65536 ^ k) := by
    have h1 := Nat.mod_add_div a (65536 ^ k)
    have h2 := Nat.mod_add_div b (65536 ^ k)
    rw [Nat.mul_add]; omega
  have e2 : (a + b) / 65536 ^ k = (a % 65536 ^ k + b % 65536 ^ k) / 65536 ^ k + (a / 65536 ^ k + b / 65536 ^ k) := by
    conv => lhs; rw [e]
    exact Nat.add_mul_div_left _ _ hp
  rw [e2]; omega
theorem car_end (a b : Nat) (ha : a < N256) (hb : b < N256) : (0 < ((car a b 16 : Nat) : Int)) ↔ N256 ≤ a + b := by
  unfold car
  have e : 65536 ^ 16 = N256 := by unfold N256; decide
  rw [e, Nat.mod_eq_of_lt ha, Nat.mod_eq_of_lt hb]
  have hp := N256_pos
  constructor
  · intro h
    have h1 : 0 < (a + b) / N256 := by omega
    exact (Nat.div_pos_iff.1 h1).2
  · intro h
    have h1 : 0 < (a + b) / N256 := Nat.div_pos h hp
    omega


set_option maxRecDepth 100000 in
set_option maxHeartbeats 1600000 in
/-- clapperref01.Add -/
theorem radd_calls {va vb : Value} {a b : Nat} (ha : IsNum va a) (hb : IsNum vb b) (w : World) :
    Calls Try.prog 17 #[va, vb] w fun e w' => e = .returned (.tuple #[numV ((a + b) % N256), .bool (decide (N256 ≤ a + b))]) ∧ Below w.heap.size w w' := by
  have HE := Lib.hid (car_end a b ha.2 hb.2)
  obtain ⟨rfl, ha⟩ := ha
  obtain ⟨rfl, hb⟩ := hb
  have P0 := fun w => parts_calls (IsNum.mk ha) w
  have P1 := fun w => parts_calls (IsNum.mk hb) w
  rw [numV_def] at P0 P1
  have K0 := Lib.hid P0; have K1 := Lib.hid P1
  clear P0 P1
  rw [numV_def, numV_def]
  go_enter Try.func17, Try.ntmps17
  go_wp2_with fail
  refine (K0.out _).mono ?_
  rintro e w1 ⟨gx, cx, rfl, hgx, hcx, rx, hb1⟩
  have hs1 : w.heap.size + 3 ≤ w1.heap.size := by have := hb1.size; simp at this; omega
  have hgx' : w.heap.size + 3 ≤ gx := by simp at hgx; omega
  have ry := ((Rw.new (n := w.heap.size + 1) (by simp)).alloc _).below hb1 (by simp)
  have rz := (Rw.new (n := w.heap.size + 2) (by simp)).below hb1 (by simp)
  obtain ⟨cy0, cy1, cy2, cy3⟩ := ry.four
  have hB1 : Below w.heap.size w w1 := (show Below w.heap.size w _ from by repeat (first | exact Below.refl _ _ | refine Below.drew ?_ | refine below_drewN ?_ _ | refine Below.alloc ?_ (by first | (simp; done) | (simp; omega)) _)).trans (hb1.mono (by simp; omega))
  have RX := Lib.hid rx; have RZ := Lib.hid rz
  have hzx := rx.size
  clear rx ry rz hb1 hgx
  go_wp2_with fail
  refine (K1.out _).mono ?_
  rintro e w2 ⟨gy, cy, rfl, hgy, hcy, ry, hb2⟩
  have rx2 := RX.out.below hb2 RX.out.size
  have rz2 := RZ.out.below hb2 RZ.out.size
  have hB2 := hB1.trans (hb2.mono (by omega))
  have hs2 : w.heap.size + 3 ≤ w2.heap.size := by have := hb2.size; omega
  have RX2 := Lib.hid rx2; have RY2 := Lib.hid ry; have RZ2 := Lib.hid rz2
  have hxy : gx < gy := by omega
  clear rx2 ry rz2 hb2 RX RZ hgy cy0 cy1 cy2 cy3 hB1 hs1 hzx
  go_wp2
  go_loopw [8, 9] (fun c i wr => ∃ k : Nat, k ≤ 16 ∧ i = .int .i64 k ∧ c = .int .i64 (car a b k : Nat) ∧ Hid (Rw wr 3 gx (fnL (mix (pt (a + b)) (pt a) k) 16)) ∧ Hid (Rw wr 3 gy (ptL b 16)) ∧ Hid (Rw wr 24 (w.heap.size + 2) [.int .u64 0, .int .u64 0, .int .u64 0, .int .u64 0]) ∧ Below w.heap.size w wr)
    (fun _ i _ => 16 - (intOf i).toNat)
  case atStart =>
    exact ⟨0, Nat.zero_le _, rfl, by simp [car], Lib.hid (by rw [mix_zero]; exact RX2.out), RY2, RZ2, hB2⟩
  case round =>
    obtain ⟨k, hk, rfl, rfl, HX, HY, HZ, hB⟩ := hrel
    by_cases hk16 : k < 16
    · have cx := HX.out.cell (fnL_get _ _ _ hk16)
      rw [mix_here] at cx
      have cy := HY.out.cell (ptL_get _ _ _ hk16)
      have fx := HX.out.free k
      have hp := pt_lt a k
      have hq := pt_lt b k
      have hc := car_le a b k
      have HS := Lib.hid (pt_sum a b k)
      have HC := Lib.hid (car_next a b k)
      have hbx := hB.size
      go_wp2
      go_quiet (fail)
      go_wp2
      go_roundw
      case rel =>
        refine ⟨k + 1, by omega, by go_num, by rw [HC.out]; go_num, Lib.hid ?_, Lib.hid ?_, Lib.hid ?_, ?_⟩
        · have e : (.int .i64 (((pt a k : Nat) : Int) + (pt b k : Nat) + (car a b k : Nat)) : Value) = .int .i64 ((pt a k + pt b k + car a b k : Nat) : Int) := by go_num
          rw [← mix_set]
          have h := (HX.out.drewN nq).set k (.int .i64 (pt (a + b) k : Nat))
          have e2 : (((pt a k : Nat) : Int) + (pt b k : Nat) + (car a b k : Nat)) % 65536 = ((pt (a + b) k : Nat) : Int) := by rw [HS.out]; omega
          rw [e2]
          exact h
        · exact (HY.out.drewN _).set_other (by simp; omega) _
        · exact (HZ.out.drewN _).set_other (by simp; omega) _
        · exact (below_drewN hB _).setCell (by simp; omega) _
      case measure => simp [intOf]; omega
    · have hk17 : k = 16 := by omega
      subst hk17
      have hx := HX.out
      rw [mix_full _ _ _ _ (Nat.le_refl _)] at hx
      have hn := num_calls (cap := cx) hx
      have HN := Lib.hid hn
      clear hx hn
      go_wp2_with fail
      refine HN.out.mono ?_
      rintro e w3 ⟨rfl, hb3⟩
      have rz3 := HZ.out.below hb3 HZ.out.size
      obtain ⟨c0, c1, c2, c3⟩ := rz3.four
      have z0 := rz3.free 0
      have z1 := rz3.free 1
      have z2 := rz3.free 2
      have z3 := rz3.free 3
      have hz3 := rz3.size
      have hB3 := hB.trans (hb3.mono (by have := HZ.out.size; omega))
      clear rz3 hb3
      rw [numV_def]
      go_wp2
      refine bodyPost_ret (v := .tuple #[.agg #[.int .u64 (wd0 ((a + b) % N256) : Nat), .int .u64 (wd1 ((a + b) % N256) : Nat), .int .u64 (wd2 ((a + b) % N256) : Nat), .int .u64 (wd3 ((a + b) % N256) : Nat)], .bool (decide (0 < ((car a b 16 : Nat) : Int)))]) (by simp [results, Try.results17, go_sem, c0, c1, c2, c3]) rfl ⟨?_, ?_⟩
      · rw [numV_def, decide_eq_decide.2 HE.out]
      · repeat (first | exact hB3 | refine Below.setCell ?_ (by simp; omega) _)

/-- what is borrowed from part k of a difference -/
def bor (a b k : Nat) : Nat := if a % 65536 ^ k < b % 65536 ^ k then 1 else 0
theorem bor_le (a b k : Nat) : bor a b k ≤ 1 := by unfold bor; split <;> omega
theorem bor_next (a b k : Nat) : bor a b (k + 1) = if pt a k < pt b k + bor a b k then 1 else 0 := by
  unfold bor
  rw [mod_up, mod_up]
  have hp := pow_pos' k
  have h1 := Nat.mod_lt a hp
  have h2 := Nat.mod_lt b hp
  generalize a % 65536 ^ k = A at *
  generalize b % 65536 ^ k = B at *
  generalize pt a k = p
  generalize pt b k = q
  generalize 65536 ^ k = M at *
  by_cases hpq : p < q
  · have : M * (p + 1) ≤ M * q := Nat.mul_le_mul_left _ hpq
    rw [Nat.mul_add] at this
    rw [if_pos (by omega), if_pos (by omega)]
  · by_cases hqp : q < p
    · have : M * (q + 1) ≤ M * p := Nat.mul_le_mul_left _ hqp
      rw [Nat.mul_add] at this
      rw [if_neg (by omega)]
      split <;> rw [if_neg (by omega)]
    · have e : p = q := by omega
      subst e
      by_cases hAB : A < B
      · rw [if_pos (by omega), if_pos (by rw [if_pos hAB]; omega)]
      · rw [if_neg (by omega), if_neg (by rw [if_neg hAB]; omega)]
theorem pt_sub (a b k : Nat) (hk : k < 16) (hb : b < N256) : pt (a + N256 - b) k = (pt a k + 65536 - pt b k - bor a b k) % 65536 := by
  obtain ⟨R, hR⟩ : ∃ R, N256 = 65536 ^ k * (65536 * R) := ⟨65536 ^ (15 - k), by
    rw [← Nat.pow_succ', ← Nat.pow_add, show k + (15 - k + 1) = 16 by omega]; unfold N256; decide⟩
  have hp := pow_pos' k
  have h1 := Nat.mod_lt a hp
  have h2 := Nat.mod_lt b hp
  have ea := Nat.mod_add_div a (65536 ^ k)
  have eb := Nat.mod_add_div b (65536 ^ k)
  rw [hR] at hb ⊢
  unfold pt bor
  generalize a % 65536 ^ k = A at *
  generalize b % 65536 ^ k = B at *
  generalize a / 65536 ^ k = p at *
  generalize b / 65536 ^ k = q at *
  generalize 65536 ^ k = M at *
  have hq : q < 65536 * R := by
    have h3 : M * q < M * (65536 * R) := by omega
    exact Nat.lt_of_mul_lt_mul_left h3
  subst ea; subst eb
  by_cases hAB : A < B
  · rw [if_pos hAB]
    have e : A + M * p + M * (65536 * R) - (B + M * q) = (A + M - B) + M * (p + 65536 * R - q - 1) := by
      have h4 : M * (p + 65536 * R - q - 1) + M * (q + 1) = M * (p + 65536 * R) := by rw [← Nat.mul_add]; congr 1; omega
      rw [Nat.mul_add, Nat.mul_add] at h4
      omega
    rw [e, Nat.add_mul_div_left _ _ hp, Nat.div_eq_of_lt (by omega)]
    omega
  · rw [if_neg hAB]
    have e : A + M * p + M * (65536 * R) - (B + M * q) = (A - B) + M * (p + 65536 * R - q) := by
      have h4 : M * (p + 65536 * R - q) + M * q = M * (p + 65536 * R) := by rw [← Nat.mul_add]; congr 1; omega
      rw [Nat.mul_add M p] at h4
      omega
    rw [e, Nat.add_mul_div_left _ _ hp, Nat.div_eq_of_lt (by omega)]
    omega
theorem bor_end (a b : Nat) (ha : a < N256) (hb : b < N256) : (0 < ((bor a b 16 : Nat) : Int)) ↔ a < b := by
  unfold bor
  have e : 65536 ^ 16 = N256 := by unfold N256; decide
  rw [e, Nat.mod_eq_of_lt ha, Nat.mod_eq_of_lt hb]
  split <;> omega

set_option maxRecDepth 100000 in
set_option maxHeartbeats 1600000 in
/-- clapperref01.Sub -/
theorem rsub_calls {va vb : Value} {a b : Nat} (ha : IsNum va a) (hb : IsNum vb b) (w : World) :
    Calls Try.prog 18 #[va, vb] w fun e w' => e = .returned (.tuple #[numV ((a + N256 - b) % N256), .bool (decide (a < b))]) ∧ Below w.heap.size w w' := by
  have HE := Lib.hid (bor_end a b ha.2 hb.2)
  obtain ⟨rfl, ha⟩ := ha
  obtain ⟨rfl, hb⟩ := hb
  have P0 := fun w => parts_calls (IsNum.mk ha) w
  have P1 := fun w => parts_calls (IsNum.mk hb) w
  rw [numV_def] at P0 P1
  have K0 := Lib.hid P0; have K1 := Lib.hid P1
  clear P0 P1
  rw [numV_def, numV_def]
  go_enter Try.func18, Try.ntmps18
  go_wp2_with fail
  refine (K0.out _).mono ?_
  rintro e w1 ⟨gx, cx, rfl, hgx, hcx, rx, hb1⟩
  have hs1 : w.heap.size + 3 ≤ w1.heap.size := by have := hb1.size; simp at this; omega
  have hgx' : w.heap.size + 3 ≤ gx := by simp at hgx; omega
  have ry := ((Rw.new (n := w.heap.size + 1) (by simp)).alloc _).below hb1 (by simp)
  have rz := (Rw.new (n := w.heap.size + 2) (by simp)).below hb1 (by simp)
  obtain ⟨cy0, cy1, cy2, cy3⟩ := ry.four
  have hB1 : Below w.heap.size w w1 := (show Below w.heap.size w _ from by repeat (first | exact Below.refl _ _ | refine Below.drew ?_ | refine below_drewN ?_ _ | refine Below.alloc ?_ (by first | (simp; done) | (simp; omega)) _)).trans (hb1.mono (by simp; omega))
  have RX := Lib.hid rx; have RZ := Lib.hid rz
  have hzx := rx.size
  clear rx ry rz hb1 hgx
  go_wp2_with fail
  refine (K1.out _).mono ?_
  rintro e w2 ⟨gy, cy, rfl, hgy, hcy, ry, hb2⟩
  have rx2 := RX.out.below hb2 RX.out.size
  have rz2 := RZ.out.below hb2 RZ.out.size
  have hB2 := hB1.trans (hb2.mono (by omega))
  have hs2 : w.heap.size + 3 ≤ w2.heap.size := by have := hb2.size; omega
  have RX2 := Lib.hid rx2; have RY2 := Lib.hid ry; have RZ2 := Lib.hid rz2
  have hxy : gx < gy := by omega
  clear rx2 ry rz2 hb2 RX RZ hgy cy0 cy1 cy2 cy3 hB1 hs1 hzx
  go_wp2
  go_loopw [8, 9] (fun c i wr => ∃ k : Nat, k ≤ 16 ∧ i = .int .i64 k ∧ c = .int .i64 (bor a b k : Nat) ∧ Hid (Rw wr 3 gx (fnL (mix (pt (a + N256 - b)) (pt a) k) 16)) ∧ Hid (Rw wr 3 gy (ptL b 16)) ∧ Hid (Rw wr 24 (w.heap.size + 2) [.int .u64 0, .int .u64 0, .int .u64 0, .int .u64 0]) ∧ Below w.heap.size w wr)
    (fun _ i _ => 16 - (intOf i).toNat)
  case atStart =>
    exact ⟨0, Nat.zero_le _, rfl, by rw [show bor a b 0 = 0 from by unfold bor; rw [Nat.pow_zero, Nat.mod_one, Nat.mod_one]; rfl]; rfl, Lib.hid (by rw [mix_zero]; exact RX2.out), RY2, RZ2, hB2⟩
  case round =>
    obtain ⟨k, hk, rfl, rfl, HX, HY, HZ, hB⟩ := hrel
    by_cases hk16 : k < 16
    · have cx := HX.out.cell (fnL_get _ _ _ hk16)
      rw [mix_here] at cx
      have cy := HY.out.cell (ptL_get _ _ _ hk16)
      have fx := HX.out.free k
      have hp := pt_lt a k
      have hq := pt_lt b k
      have hc := bor_le a b k
      have HS := Lib.hid (pt_sub a b k hk16 hb)
      have HC := Lib.hid (bor_next a b k)
      have hbx := hB.size
      go_wp2
      go_quiet (fail)
      by_cases hlt : ((pt a k : Nat) : Int) - (pt b k : Nat) - (bor a b k : Nat) < 0
      · go_wp2
        go_roundw
        case rel =>
          refine ⟨k + 1, by omega, by go_num, by rw [HC.out, if_pos (by omega)]; rfl, Lib.hid ?_, Lib.hid ?_, Lib.hid ?_, ?_⟩
          · rw [← mix_set]
            have h := (HX.out.drewN nq).set k (.int .i64 (pt (a + N256 - b) k : Nat))
            have e2 : ((pt a k : Nat) : Int) - (pt b k : Nat) - (bor a b k : Nat) + 65536 = ((pt (a + N256 - b) k : Nat) : Int) := by rw [HS.out]; omega
            rw [e2]
            exact h
          · exact (HY.out.drewN _).set_other (by simp; omega) _
          · exact (HZ.out.drewN _).set_other (by simp; omega) _
          · exact (below_drewN hB _).setCell (by simp; omega) _
        case measure => simp [intOf]; omega
      · go_wp2
        go_roundw
        case rel =>
          refine ⟨k + 1, by omega, by go_num, by rw [HC.out, if_neg (by omega)]; rfl, Lib.hid ?_, Lib.hid ?_, Lib.hid ?_, ?_⟩
          · rw [← mix_set]
            have h := (HX.out.drewN nq).set k (.int .i64 (pt (a + N256 - b) k : Nat))
            have e2 : ((pt a k : Nat) : Int) - (pt b k : Nat) - (bor a b k : Nat) = ((pt (a + N256 - b) k : Nat) : Int) := by rw [HS.out]; omega
            rw [e2]
            exact h
          · exact (HY.out.drewN _).set_other (by simp; omega) _
          · exact (HZ.out.drewN _).set_other (by simp; omega) _
          · exact (below_drewN hB _).setCell (by simp; omega) _
        case measure => simp [intOf]; omega
    · have hk17 : k = 16 := by omega
      subst hk17
      have hx := HX.out
      rw [mix_full _ _ _ _ (Nat.le_refl _)] at hx
      have hn := num_calls (cap := cx) hx
      have HN := Lib.hid hn
      clear hx hn
      go_wp2_with fail
      refine HN.out.mono ?_
      rintro e w3 ⟨rfl, hb3⟩
      have rz3 := HZ.out.below hb3 HZ.out.size
      obtain ⟨c0, c1, c2, c3⟩ := rz3.four
      have z0 := rz3.free 0
      have z1 := rz3.free 1
      have z2 := rz3.free 2
      have z3 := rz3.free 3
      have hz3 := rz3.size
      have hB3 := hB.trans (hb3.mono (by have := HZ.out.size; omega))
      clear rz3 hb3
      rw [numV_def]
      go_wp2
      refine bodyPost_ret (v := .tuple #[.agg #[.int .u64 (wd0 ((a + N256 - b) % N256) : Nat), .int .u64 (wd1 ((a + N256 - b) % N256) : Nat), .int .u64 (wd2 ((a + N256 - b) % N256) : Nat), .int .u64 (wd3 ((a + N256 - b) % N256) : Nat)], .bool (decide (0 < ((bor a b 16 : Nat) : Int)))]) (by simp [results, Try.results18, go_sem, c0, c1, c2, c3]) rfl ⟨?_, ?_⟩
      · rw [numV_def, decide_eq_decide.2 HE.out]
      · repeat (first | exact hB3 | refine Below.setCell ?_ (by simp; omega) _)
end Go.Proofs.Ytpdanniolgoimaa
