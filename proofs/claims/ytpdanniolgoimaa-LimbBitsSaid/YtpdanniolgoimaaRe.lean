/- clapperref01.Cmp, Bit, Len, Half: by their contracts. No condition but that the numbers are below 2^256. -/
import Derived.Test.YtpdanniolgoimaaRb
import Derived.Test.YtpdanniolgoimaaRc
import Derived.Test.YtpdanniolgoimaaRd
import Derived.Test.YtpdanniolgoimaaLb
import Derived.Test.YtpdanniolgoimaaLc
import Derived.Test.YtpdanniolgoimaaLe
namespace Go.Proofs.Ytpdanniolgoimaa
open Go.RowKit
set_option linter.unusedVariables false
set_option linter.unusedSimpArgs false

theorem cmp_next (a b k : Nat) : cmpI (a % 65536 ^ (k + 1)) (b % 65536 ^ (k + 1)) = if pt a k < pt b k then -1 else if pt b k < pt a k then 1 else cmpI (a % 65536 ^ k) (b % 65536 ^ k) := by
  rw [mod_up, mod_up]
  have hp := pow_pos' k
  have h1 := Nat.mod_lt a hp
  have h2 := Nat.mod_lt b hp
  generalize a % 65536 ^ k = A at *
  generalize b % 65536 ^ k = B at *
  generalize pt a k = p
  generalize pt b k = q
  generalize 65536 ^ k = M at *
  unfold cmpI
  by_cases hpq : p < q
  · have : M * (p + 1) ≤ M * q := Nat.mul_le_mul_left _ hpq
    rw [Nat.mul_add] at this
    rw [if_pos (by omega), if_pos hpq]
  · by_cases hqp : q < p
    · have : M * (q + 1) ≤ M * p := Nat.mul_le_mul_left _ hqp
      rw [Nat.mul_add] at this
      rw [if_neg (by omega), if_pos (by omega), if_neg hpq, if_pos hqp]
    · have e : p = q := by omega
      subst e
      rw [if_neg hpq, if_neg hpq]
      by_cases h3 : A < B
      · rw [if_pos (by omega), if_pos h3]
      · rw [if_neg (by omega), if_neg h3]
        by_cases h4 : B < A
        · rw [if_pos (by omega), if_pos h4]
        · rw [if_neg (by omega), if_neg h4]
theorem cmp_end (a b : Nat) (ha : a < N256) (hb : b < N256) : cmpI (a % 65536 ^ 16) (b % 65536 ^ 16) = cmpI a b := by
  have e : 65536 ^ 16 = N256 := by unfold N256; decide
  rw [e, Nat.mod_eq_of_lt ha, Nat.mod_eq_of_lt hb]

set_option maxRecDepth 100000 in
set_option maxHeartbeats 1600000 in
/-- clapperref01.Cmp -/
theorem rcmp_calls {va vb : Value} {a b : Nat} (ha : IsNum va a) (hb : IsNum vb b) (w : World) :
    Calls Try.prog 20 #[va, vb] w fun e w' => e = .returned (.int .i64 (cmpI a b)) ∧ Below w.heap.size w w' := by
  have HE := Lib.hid (cmp_end a b ha.2 hb.2)
  obtain ⟨rfl, ha⟩ := ha
  obtain ⟨rfl, hb⟩ := hb
  have P0 := fun w => parts_calls (IsNum.mk ha) w
  have P1 := fun w => parts_calls (IsNum.mk hb) w
  rw [numV_def] at P0 P1
  have K0 := Lib.hid P0; have K1 := Lib.hid P1
  clear P0 P1
  rw [numV_def, numV_def]
  go_enter Try.func20, Try.ntmps20
  go_wp2_with fail
  refine (K0.out _).mono ?_
  rintro e w1 ⟨gx, cx, rfl, hgx, hcx, rx, hb1⟩
  have hs1 : w.heap.size + 2 ≤ w1.heap.size := by have := hb1.size; simp at this; omega
  have hgx' : w.heap.size + 2 ≤ gx := by simp at hgx; omega
  have ry := ((Rw.new (n := w.heap.size + 1) (by simp))).below hb1 (by simp)
  obtain ⟨cy0, cy1, cy2, cy3⟩ := ry.four
  have hB1 : Below w.heap.size w w1 := (show Below w.heap.size w _ from by repeat (first | exact Below.refl _ _ | refine Below.drew ?_ | refine below_drewN ?_ _ | refine Below.alloc ?_ (by first | (simp; done) | (simp; omega)) _)).trans (hb1.mono (by simp; omega))
  have RX := Lib.hid rx
  have hzx := rx.size
  clear rx ry hb1 hgx
  go_wp2_with fail
  refine (K1.out _).mono ?_
  rintro e w2 ⟨gy, cy, rfl, hgy, hcy, ry, hb2⟩
  have rx2 := RX.out.below hb2 RX.out.size
  have hB2 := hB1.trans (hb2.mono (by omega))
  have RX2 := Lib.hid rx2; have RY2 := Lib.hid ry
  clear rx2 ry hb2 RX hgy cy0 cy1 cy2 cy3 hB1 hs1 hzx
  go_wp2
  go_loopw [7, 8] (fun c i wr => ∃ k : Nat, k ≤ 16 ∧ i = .int .i64 k ∧ c = .int .i64 (cmpI (a % 65536 ^ k) (b % 65536 ^ k)) ∧ Hid (Rw wr 3 gx (ptL a 16)) ∧ Hid (Rw wr 3 gy (ptL b 16)) ∧ Below w.heap.size w wr)
    (fun _ i _ => 16 - (intOf i).toNat)
  case atStart =>
    exact ⟨0, Nat.zero_le _, rfl, by rw [Nat.pow_zero, Nat.mod_one, Nat.mod_one]; rfl, RX2, RY2, hB2⟩
  case round =>
    obtain ⟨k, hk, rfl, rfl, HX, HY, hB⟩ := hrel
    by_cases hk16 : k < 16
    · have cx := HX.out.cell (ptL_get _ _ _ hk16)
      have cy := HY.out.cell (ptL_get _ _ _ hk16)
      have HC := Lib.hid (cmp_next a b k)
      by_cases h1 : ((pt a k : Nat) : Int) < (pt b k : Nat)
      · have h1' : ¬ ((pt b k : Nat) : Int) < (pt a k : Nat) := by omega
        go_wp2
        go_quiet (fail)
        go_wp2
        go_quiet (fail)
        go_wp2
        go_roundw
        case rel => exact ⟨k + 1, by omega, by go_num, by rw [HC.out, if_pos (by omega)], Lib.hid ((HX.out.drewN _)), Lib.hid ((HY.out.drewN _)), below_drewN hB _⟩
        case measure => simp [intOf]; omega
      · by_cases h2 : ((pt b k : Nat) : Int) < (pt a k : Nat)
        · go_wp2
          go_quiet (fail)
          go_wp2
          go_quiet (fail)
          go_wp2
          go_roundw
          case rel => exact ⟨k + 1, by omega, by go_num, by rw [HC.out, if_neg (by omega), if_pos (by omega)], Lib.hid ((HX.out.drewN _)), Lib.hid ((HY.out.drewN _)), below_drewN hB _⟩
          case measure => simp [intOf]; omega
        · go_wp2
          go_quiet (fail)
          go_wp2
          go_quiet (fail)
          go_wp2
          go_roundw
          case rel => exact ⟨k + 1, by omega, by go_num, by rw [HC.out, if_neg (by omega), if_neg (by omega)], Lib.hid ((HX.out.drewN _)), Lib.hid ((HY.out.drewN _)), below_drewN hB _⟩
          case measure => simp [intOf]; omega
    · have hk17 : k = 16 := by omega
      subst hk17
      go_wp2
      go_ret
      exact ⟨ret_int HE.out, hB⟩

theorem pt_bit (a n : Nat) : decide (pt a (n / 16) / 2 ^ (n % 16) % 2 = 1) = a.testBit n := by
  rw [← Nat.testBit_eq_decide_div_mod_eq]
  unfold pt
  have e : (65536 : Nat) ^ (n / 16) = 2 ^ (16 * (n / 16)) := by rw [Nat.pow_mul]
  rw [e, show (65536 : Nat) = 2 ^ 16 from by decide, Nat.testBit_mod_two_pow, Nat.testBit_div_two_pow]
  have h : n % 16 < 16 := Nat.mod_lt _ (by omega)
  simp only [h, decide_true, Bool.true_and]
  congr 1; omega
set_option maxRecDepth 100000 in
set_option maxHeartbeats 800000 in
theorem rbit_in {va : Value} {a n : Nat} (ha : IsNum va a) (hn : n < 256) (w : World) :
    Calls Try.prog 26 #[va, .int .i64 (n : Nat)] w fun e w' => e = .returned (.bool (a.testBit n)) ∧ Below w.heap.size w w' := by
  obtain ⟨rfl, ha⟩ := ha
  have P0 := fun w => parts_calls (IsNum.mk ha) w
  rw [numV_def] at P0
  have K0 := Lib.hid P0
  have HE := Lib.hid (pt_bit a n)
  clear P0
  rw [numV_def]
  have hq : n / 16 < 16 := by omega
  have hd0 : decide ((n : Int) < 0) = false := by simp
  have hd1 : decide ((255 : Int) < (n : Int)) = false := by simp; omega
  go_enter Try.func26, Try.ntmps26
  go_wp2_with fail
  refine (K0.out _).mono ?_
  rintro e w1 ⟨gx, cx, rfl, hgx, hcx, rx, hb1⟩
  have cq := rx.cell (ptL_get _ _ _ hq)
  have hB1 : Below w.heap.size w w1 := (show Below w.heap.size w _ from by repeat (first | exact Below.refl _ _ | refine Below.drew ?_ | refine below_drewN ?_ _ | refine Below.alloc ?_ (by first | (simp; done) | (simp; omega)) _)).trans (hb1.mono (by simp))
  have hp := pt_lt a (n / 16)
  obtain ⟨p, hpe⟩ : ∃ p, p = pt a (n / 16) := ⟨_, rfl⟩
  rw [← hpe] at cq hp HE
  clear hpe rx hb1 hgx
  go_wp2
  go_loopw [5, 6] (fun x i wr => ∃ k : Nat, k ≤ n % 16 ∧ i = .int .i64 k ∧ x = .int .i64 (p / 2 ^ k : Nat) ∧ Below w.heap.size w wr)
    (fun _ i _ => n % 16 - (intOf i).toNat)
  case atStart => exact ⟨0, Nat.zero_le _, rfl, by simp, hB1⟩
  case round =>
    obtain ⟨k, hk, rfl, rfl, hB⟩ := hrel
    by_cases hkr : k < n % 16
    · have hx : p / 2 ^ k < 65536 := Nat.lt_of_le_of_lt (Nat.div_le_self _ _) hp
      have hnx : p / 2 ^ k / 2 = p / 2 ^ (k + 1) := by rw [Nat.pow_succ, Nat.div_div_eq_div_mul]
      obtain ⟨x, hxe⟩ : ∃ x, x = p / 2 ^ k := ⟨_, rfl⟩
      rw [← hxe] at hx hnx ⊢
      have HX := Lib.hid hnx
      clear hxe hnx
      go_wp2
      go_roundw
      case rel => exact ⟨k + 1, by omega, by go_num, by rw [← HX.out]; rfl, hB⟩
      case measure => simp [intOf]; omega
    · have hk2 : k = n % 16 := by omega
      have hx : p / 2 ^ k < 65536 := Nat.lt_of_le_of_lt (Nat.div_le_self _ _) hp
      subst hk2
      obtain ⟨x, hxe⟩ : ∃ x, x = p / 2 ^ (n % 16) := ⟨_, rfl⟩
      rw [← hxe] at hx HE ⊢
      have HX := Lib.hid hxe
      clear hxe
      go_wp2
      go_ret
      refine ⟨ret_bool ?_, hB⟩
      rw [← HE.out, Bool.eq_iff_iff]
      simp
      omega
set_option maxRecDepth 100000 in
set_option maxHeartbeats 800000 in
theorem rbit_out {va : Value} {a : Nat} {i : Int} (ha : IsNum va a) (hi : i < 0 ∨ 256 ≤ i) (w : World) :
    Calls Try.prog 26 #[va, .int .i64 i] w fun e w' => e = .returned (.bool false) ∧ Below w.heap.size w w' := by
  obtain ⟨rfl, ha⟩ := ha
  rw [numV_def]
  rcases hi with hi | hi
  · have hd0 : decide (i < 0) = true := by simp; omega
    go_enter Try.func26, Try.ntmps26
    go_wp2
    go_ret
    exact ⟨rfl, by repeat (first | exact Below.refl _ _ | refine Below.drew ?_ | refine below_drewN ?_ _ | refine Below.alloc ?_ (by first | (simp; done) | (simp; omega)) _)⟩
  · have hd0 : decide (i < 0) = false := by simp; omega
    have hd1 : decide ((255 : Int) < i) = true := by simp; omega
    go_enter Try.func26, Try.ntmps26
    go_wp2
    go_ret
    exact ⟨rfl, by repeat (first | exact Below.refl _ _ | refine Below.drew ?_ | refine below_drewN ?_ _ | refine Below.alloc ?_ (by first | (simp; done) | (simp; omega)) _)⟩
/-- clapperref01.Bit -/
theorem rbit_calls {va : Value} {a : Nat} (ha : IsNum va a) (i : Int) (w : World) :
    Calls Try.prog 26 #[va, .int .i64 i] w fun e w' => e = .returned (.bool (bitI a i)) ∧ Below w.heap.size w w' := by
  by_cases h : 0 ≤ i ∧ i < 256
  · obtain ⟨n, rfl⟩ := Int.eq_ofNat_of_zero_le h.1
    refine (rbit_in ha (by omega) w).mono ?_
    rintro e w' ⟨rfl, hb⟩
    exact ⟨ret_bool (by unfold bitI; simp), hb⟩
  · refine (rbit_out ha (by omega) w).mono ?_
    rintro e w' ⟨rfl, hb⟩
    refine ⟨ret_bool ?_, hb⟩
    unfold bitI
    by_cases h0 : 0 ≤ i
    · rw [testBit_high a i.toNat ha.2 (by omega), Bool.and_false]
    · simp [h0]

theorem len_next (a k : Nat) : lenN (a % 2 ^ (k + 1)) = if a.testBit k then k + 1 else lenN (a % 2 ^ k) := by
  have hp : 0 < 2 ^ k := Nat.two_pow_pos k
  have h1 := Nat.mod_lt a hp
  have e : a % 2 ^ (k + 1) = a % 2 ^ k + 2 ^ k * (a / 2 ^ k % 2) := by rw [Nat.pow_succ, Nat.mod_mul]
  rw [e, Nat.testBit_eq_decide_div_mod_eq]
  have h2 : a / 2 ^ k % 2 = 0 ∨ a / 2 ^ k % 2 = 1 := by omega
  rcases h2 with h | h
  · rw [h]; simp
  · rw [h, lenN_up _ 1 k h1 (by omega)]; simp [lenN]; decide
theorem len_end (a : Nat) (ha : a < N256) : lenN (a % 2 ^ 256) = lenN a := by
  have e : 2 ^ 256 = N256 := by unfold N256; decide
  rw [e, Nat.mod_eq_of_lt ha]
set_option maxRecDepth 100000 in
set_option maxHeartbeats 800000 in
/-- clapperref01.Len -/
theorem rlen_calls {va : Value} {a : Nat} (ha : IsNum va a) (w : World) :
    Calls Try.prog 28 #[va] w fun e w' => e = .returned (.int .i64 (lenN a : Nat)) ∧ Below w.heap.size w w' := by
  obtain ⟨rfl, ha⟩ := ha
  have P0 := fun (n : Nat) (hn : n < 256) w => rbit_in (IsNum.mk ha) hn w
  rw [numV_def] at P0
  have K0 := Lib.hid P0
  have HE := Lib.hid (len_end a ha)
  clear P0
  rw [numV_def]
  go_enter Try.func28, Try.ntmps28
  go_wp2
  go_loopw [3, 4] (fun n i wr => ∃ k : Nat, k ≤ 256 ∧ i = .int .i64 k ∧ n = .int .i64 (lenN (a % 2 ^ k) : Nat) ∧ Hid (Rw wr 24 w.heap.size [.int .u64 (wd0 a : Nat), .int .u64 (wd1 a : Nat), .int .u64 (wd2 a : Nat), .int .u64 (wd3 a : Nat)]) ∧ Below w.heap.size w wr)
    (fun _ i _ => 256 - (intOf i).toNat)
  case atStart =>
    exact ⟨0, Nat.zero_le _, rfl, by rw [Nat.pow_zero, Nat.mod_one]; rfl, Lib.hid (Rw.new rfl), by repeat (first | exact Below.refl _ _ | refine Below.drew ?_ | refine below_drewN ?_ _ | refine Below.alloc ?_ (by first | (simp; done) | (simp; omega)) _)⟩
  case round =>
    obtain ⟨k, hk, rfl, rfl, HX, hB⟩ := hrel
    by_cases hk2 : k < 256
    · obtain ⟨c0, c1, c2, c3⟩ := HX.out.four
      have HC := Lib.hid (len_next a k)
      go_wp2_with fail
      refine (K0.out k hk2 _).mono ?_
      rintro e w1 ⟨rfl, hb1⟩
      have HX2 := Lib.hid (HX.out.below hb1 HX.out.size)
      have hB2 := hB.trans (hb1.mono (by have := hB.size; omega))
      clear hb1 c0 c1 c2 c3
      cases hbit : a.testBit k
      · have HD := Lib.hid hbit
        clear hbit
        go_wp2
        go_roundw
        case rel => exact ⟨k + 1, by omega, by go_num, by rw [HC.out, HD.out]; rfl, HX2, hB2⟩
        case measure => simp [intOf]; omega
      · have HD := Lib.hid hbit
        clear hbit
        go_wp2
        go_roundw
        case rel => exact ⟨k + 1, by omega, by go_num, by rw [HC.out, HD.out]; rfl, HX2, hB2⟩
        case measure => simp [intOf]; omega
    · have hk3 : k = 256 := by omega
      subst hk3
      go_wp2
      go_ret
      exact ⟨ret_int (by rw [HE.out]), hB⟩

theorem half_pt (a m : Nat) : pt (a / 2) m = (pt a m + 65536 * (a / 65536 ^ (m + 1) % 2)) / 2 := by
  unfold pt
  rw [Nat.pow_succ, ← Nat.div_div_eq_div_mul, Nat.div_div_eq_div_mul a 2, Nat.mul_comm 2, ← Nat.div_div_eq_div_mul]
  generalize a / 65536 ^ m = q
  omega
theorem half_car (a m : Nat) : (pt a m + 65536 * (a / 65536 ^ (m + 1) % 2)) % 2 = a / 65536 ^ m % 2 := by
  unfold pt
  omega
theorem top_zero (a : Nat) (ha : a < N256) : a / 65536 ^ 16 % 2 = 0 := by
  have e : 65536 ^ 16 = N256 := by unfold N256; decide
  rw [e, Nat.div_eq_of_lt ha]
set_option maxRecDepth 100000 in
set_option maxHeartbeats 1600000 in
/-- clapperref01.Half -/
theorem rhalf_calls {va : Value} {a : Nat} (ha : IsNum va a) (w : World) :
    Calls Try.prog 25 #[va] w fun e w' => e = .returned (numV (a / 2)) ∧ Below w.heap.size w w' := by
  obtain ⟨rfl, ha⟩ := ha
  have P0 := fun w => parts_calls (IsNum.mk ha) w
  rw [numV_def] at P0
  have K0 := Lib.hid P0
  have HT := Lib.hid (top_zero a ha)
  have hm : a / 2 % N256 = a / 2 := Nat.mod_eq_of_lt (Nat.lt_of_le_of_lt (Nat.div_le_self _ _) ha)
  have HM := Lib.hid hm
  clear P0 hm
  rw [numV_def, numV_def]
  go_enter Try.func25, Try.ntmps25
  go_wp2_with fail
  refine (K0.out _).mono ?_
  rintro e w1 ⟨gx, cx, rfl, hgx, hcx, rx, hb1⟩
  have hgx' : w.heap.size + 2 ≤ gx := by simp at hgx; omega
  have rz := (Rw.new (n := w.heap.size + 1) (by simp)).below hb1 (by simp)
  have hB1 : Below w.heap.size w w1 := (show Below w.heap.size w _ from by repeat (first | exact Below.refl _ _ | refine Below.drew ?_ | refine below_drewN ?_ _ | refine Below.alloc ?_ (by first | (simp; done) | (simp; omega)) _)).trans (hb1.mono (by simp; omega))
  have RX := Lib.hid rx; have RZ := Lib.hid rz
  clear rx rz hb1 hgx
  go_wp2
  go_loopw [4, 5] (fun c i wr => ∃ k : Nat, k ≤ 16 ∧ i = .int .i64 ((k : Int) - 1) ∧ c = .int .i64 (a / 65536 ^ k % 2 : Nat) ∧ Hid (Rw wr 3 gx (fnL (mix (pt a) (pt (a / 2)) k) 16)) ∧ Hid (Rw wr 24 (w.heap.size + 1) [.int .u64 0, .int .u64 0, .int .u64 0, .int .u64 0]) ∧ Below w.heap.size w wr)
    (fun _ i _ => (intOf i + 1).toNat)
  case atStart =>
    exact ⟨16, Nat.le_refl _, rfl, by rw [HT.out]; rfl, Lib.hid (by rw [mix_full _ _ _ _ (Nat.le_refl _)]; exact RX.out), RZ, hB1⟩
  case round =>
    obtain ⟨k, hk, rfl, rfl, HX, HZ, hB⟩ := hrel
    by_cases hk0 : 0 < k
    · obtain ⟨m, rfl⟩ : ∃ m, k = m + 1 := ⟨k - 1, by omega⟩
      rw [show (((m + 1 : Nat) : Int) - 1) = (m : Int) by omega]
      have cx := HX.out.cell (fnL_get _ _ _ (show m < 16 by omega))
      rw [mix_below _ _ _ _ (by omega)] at cx
      have fx := HX.out.free m
      have hp := pt_lt a m
      have HS := Lib.hid (half_pt a m)
      have HC := Lib.hid (half_car a m)
      have hbx := hB.size
      have hcc : a / 65536 ^ (m + 1) % 2 < 2 := Nat.mod_lt _ (by omega)
      obtain ⟨c, hce⟩ : ∃ c, c = a / 65536 ^ (m + 1) % 2 := ⟨_, rfl⟩
      rw [← hce] at HS HC hcc ⊢
      clear hce
      go_wp2
      go_roundw
      case rel =>
        refine ⟨m, by omega, by go_num, by rw [← HC.out]; go_num, Lib.hid ?_, Lib.hid ?_, ?_⟩
        · have h := HX.out.set m (.int .i64 (pt (a / 2) m : Nat))
          rw [mix_down] at h
          have e2 : (((pt a m : Nat) : Int) + 65536 * (c : Nat)) / 2 = ((pt (a / 2) m : Nat) : Int) := by rw [HS.out]; omega
          rw [e2]
          exact h
        · exact HZ.out.set_other (by simp; omega) _
        · exact hB.setCell (by simp; omega) _
      case measure => first | (simp [intOf]; done) | (simp [intOf]; omega)
    · have hk1 : k = 0 := by omega
      subst hk1
      have hx := HX.out
      rw [mix_zero] at hx
      have hn := num_calls (cap := cx) hx
      rw [HM.out] at hn
      have HN := Lib.hid hn
      clear hx hn
      go_wp2_with fail
      refine HN.out.mono ?_
      rintro e w3 ⟨rfl, hb3⟩
      have rz3 := HZ.out.below hb3 HZ.out.size
      obtain ⟨c0, c1, c2, c3⟩ := rz3.four
      have z0 := rz3.free 0
      have z1 := rz3.free 1
      have z2 := rz3.free 2
      have z3 := rz3.free 3
      have hz3 := rz3.size
      have hB3 := hB.trans (hb3.mono (by have := HZ.out.size; omega))
      clear rz3 hb3
      rw [numV_def]
      go_wp2
      refine bodyPost_ret (v := .agg #[.int .u64 (wd0 (a / 2) : Nat), .int .u64 (wd1 (a / 2) : Nat), .int .u64 (wd2 (a / 2) : Nat), .int .u64 (wd3 (a / 2) : Nat)]) (by simp [results, Try.results25, go_sem, c0, c1, c2, c3]) rfl ⟨rfl, ?_⟩
      repeat (first | exact hB3 | refine Below.setCell ?_ (by simp) _)
end Go.Proofs.Ytpdanniolgoimaa
