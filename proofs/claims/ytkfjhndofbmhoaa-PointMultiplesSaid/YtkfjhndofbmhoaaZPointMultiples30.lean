/- What the proof of PointMultiples is made of, part 30. -/
import Derived.Test.YtkfjhndofbmhoaaZPointMultiples25
import Derived.Test.YtkfjhndofbmhoaaZPointMultiples23
import Derived.Test.YtkfjhndofbmhoaaZPointMultiples19
import Derived.Test.YtkfjhndofbmhoaaZPointMultiplesh
namespace Go.Proofs.Ytkfjhndofbmhoaa
open Go.RowKit Go.Proofs.Ytkfjhndofbmhoaa.Arr Go.Proofs.YtkfjhndofbmhoaaW.PrintWords Go.Proofs.YtkfjhndofbmhoaaW.PrintLast Go.Proofs.YtkfjhndofbmhoaaW.PrintMore
set_option linter.unusedVariables false
set_option linter.unusedSimpArgs false
attribute [local go_sem high] eqg_num eqg_num0 eqg_num1
theorem lenN_lt (e : Nat) : e < 2 ^ lenN e := by
 unfold lenN
 split
 ·rename_i h; rw [h]; decide
 ·exact Nat.lt_log2_self
theorem lenN_mono {a b : Nat} (h : a ≤ b) : lenN a ≤ lenN b := lenN_le a _ (Nat.lt_of_le_of_lt h (lenN_lt b))
theorem lenN_half (n : Nat) (h0 : n ≠ 0) (he : n % 2 = 0) : lenN (n / 2) + 1 = lenN n := by
 have h := lenN_up 0 (n / 2) 1 (by decide) (by omega)
 rw [show 0 + 2 ^ 1 * (n / 2) = n by omega] at h
 omega
theorem lenN_256b (e : Nat) (h : e < N256) : lenN e ≤ 256 := lenN_le e 256 (by rw [← n256]; exact h)
structure RI (m a un vn xn yn k : Nat) : Prop where
 lu : un < N256
 lv : vn < N256
 lx : xn < m
 ly : yn < m
 vo : vn % 2 = 1
 eu : un % m = a * xn % m
 ev : vn % m = a * yn % m
 gg : Nat.gcd un vn = Nat.gcd a m
 ph : k + (2 * (lenN un + lenN vn) + un % 2) ≤ 1025
theorem RI.half {m a un vn xn yn k : Nat} (h : RI m a un vn xn yn k) (hm : m % 2 = 1) (h0 : un ≠ 0) (he : un % 2 = 0) : RI m a (un / 2) vn (hf m xn) yn (k + 1) := by
 have hl := lenN_half un h0 he
 have hp := h.ph
 refine ⟨Nat.lt_of_le_of_lt (Nat.div_le_self _ _) h.lu, h.lv, hf_lt m xn h.lx, h.ly, h.vo, ?_, h.ev, ?_, by omega⟩
 ·apply cancel2 m _ _ hm
  rw [show 2 * (un / 2) = un by omega, h.eu, show 2 * (a * hf m xn) = a * (2 * hf m xn) by rw [Nat.mul_left_comm], Nat.mul_mod, ← hf_twice m xn hm, ← Nat.mul_mod]
 ·rw [← gcd_odd (un / 2) vn 1 h.vo, show un / 2 * 2 ^ 1 = un by omega]
  exact h.gg
theorem RI.swap {m a un vn xn yn k : Nat} (h : RI m a un vn xn yn k) (ho : un % 2 = 1) : RI m a vn un yn xn k := by
 have hp := h.ph
 have hv := h.vo
 exact ⟨h.lv, h.lu, h.ly, h.lx, ho, h.ev, h.eu, by rw [Nat.gcd_comm]; exact h.gg, by omega⟩
theorem RI.sub {m a un vn xn yn k : Nat} (h : RI m a un vn xn yn k) (ho : un % 2 = 1) (hle : vn ≤ un) : RI m a (un - vn) vn ((xn + m - yn) % m) yn (k + 1) := by
 have hp := h.ph
 have hv := h.vo
 have hl := lenN_mono (Nat.sub_le un vn)
 refine ⟨Nat.lt_of_le_of_lt (Nat.sub_le _ _) h.lu, h.lv, Nat.mod_lt _ (by have := h.lx; omega), h.ly, h.vo, sub_mod_eq m a un xn vn yn hle h.ly h.eu h.ev, h.ev, by rw [gcd_sub_self un vn hle]; exact h.gg, by omega⟩
theorem RI.start {m a : Nat} (hm : m % 2 = 1) (h1 : 1 < m) (hN : m < N256) (ha : a < m) : RI m a a m 1 0 0 := by
 have h2 := lenN_256b a (Nat.lt_trans ha hN)
 have h3 := lenN_256b m hN
 exact ⟨Nat.lt_trans ha hN, hN, h1, by omega, hm, by rw [Nat.mul_one], by rw [Nat.mod_self, Nat.mul_zero, Nat.zero_mod], rfl, by omega⟩
theorem RI.found {m a vn xn yn k : Nat} (h1 : 1 < m) (h : RI m a 0 vn xn yn k) (hv : vn = 1) : invO m a = some yn := invO_some ⟨h.ly, by rw [← h.ev, hv, Nat.mod_eq_of_lt h1]⟩
theorem RI.lost {m a vn xn yn k : Nat} (h1 : 1 < m) (h : RI m a 0 vn xn yn k) (hv : vn ≠ 1) : invO m a = none := invO_none h1 (by rw [← h.gg, Nat.gcd_zero_left]; exact hv)
theorem neq_two {a b : Nat} (ha : a < N256) (w : World) : (binOp .neq 24 (numV a) (numV 0)).run Try.prog w = .ok (.bool (!decide (a = 0))) w := neq_num ha N256_pos w
theorem eql_one {n : Nat} (h : n < N256) (w : World) : (binOp .eql 24 (numV n) (.agg #[.int .u64 1, .int .u64 0, .int .u64 0, .int .u64 0])).run Try.prog w = .ok (.bool (decide (n = 1))) w := eql_num h (b := 1) (by unfold N256; omega) w
theorem inc1100 {t : Nat} (h : t ≤ 1025) : wrap64 ((t : Int) + 1) = (t : Int) + 1 := by unfold wrap64; omega
theorem meas1100 {t : Nat} (h : t ≤ 1025) : 1100 - (intOf (.int .i64 ((t : Int) + 1))).toNat < 1100 - (intOf (.int .i64 (t : Int))).toNat := by
 show 1100 - ((t : Int) + 1).toNat < 1100 - (t : Int).toNat
 omega
set_option maxRecDepth 100000 in
set_option maxHeartbeats 40000000 in
/-- clapperref02.Inv -/
theorem rinv_calls (a m : Nat) (w : World) (hm : m < N256) (hm1 : m % 2 = 1) (h1 : 1 < m) (ha : a < m) :
  Calls Try.prog 39 #[numV a, numV m] w fun e w' => (∃ y b, e = .returned (.tuple #[numV y, .bool b]) ∧ (b = true → invO m a = some y) ∧ (b = false → invO m a = none)) ∧ Below w.heap.size w w' := by
 have HCM : Aside0 (m < N256 ∧ m % 2 = 1 ∧ 1 < m) := Aside0.mk ⟨hm, hm1, h1⟩
 have HST := Aside0.mk (RI.start hm1 h1 hm ha)
 clear hm hm1 h1 ha
 obtain ⟨va, hva⟩ : ∃ v, v = numV a := ⟨_, rfl⟩
 rw [numV_def a, numV_def m]
 clear hva va
 go_enter Try.func39, Try.ntmps39
 go_upto_region 1 with (fail)
 refine wp_at (w2 := (World.alloc (World.alloc (World.alloc w (.cells (nw a).toArray 24)) (.cells (nw m).toArray 24)) (.cells (nw 0).toArray 24))) rfl ?_
 obtain ⟨x_0, e_0, h_0, b_0, s_0⟩ := new_num w a
 obtain ⟨x_1, e_1, h_1, b_1, s_1⟩ := new_num x_0 m
 obtain ⟨x_2, e_2, h_2, b_2, s_2⟩ := new_num x_1 0
 rw [e_0, e_1, e_2]
 rw [s_0] at h_1 s_1
 rw [s_1] at h_2 s_2
 have HB : Aside0 (Below w.heap.size w x_2) := Aside0.mk (bl_both (bl_both b_0 b_1) b_2)
 have HA : Aside0 (NAt x_2 (w.heap.size) a) := Aside0.mk ((h_0.on b_1).on b_2)
 have HM : Aside0 (NAt x_2 (w.heap.size + 1) m) := Aside0.mk (h_1.on b_2)
 have HR : Aside0 (NAt x_2 (w.heap.size + 1 + 1) 0) := Aside0.mk h_2
 have HS : Aside0 (w.heap.size + 1 + 1 + 1 ≤ x_2.heap.size) := Aside0.mk (Nat.le_of_eq s_2.symm)
 clear e_0 h_0 b_0 s_0 e_1 h_1 b_1 s_1 e_2 h_2 b_2 s_2
 obtain ⟨w1, hw_⟩ : ∃ x, x = x_2 := ⟨_, rfl⟩
 subst hw_
 clear x_0 x_1
 go_upto_region 2 with (first | ((with_reducible refine gate_dst (N := 14) rfl ?_); refine ld_num (HA.out.range) rfl _ rfl rfl ?_) | ((with_reducible refine gate_dst (N := 6) rfl ?_); refine al_num rfl _ rfl rfl ?_; intro gU a_U eg HNU hb2; have HXgU : Aside0 (w.heap.size + 1 + 1 + 1 ≤ gU) := Aside0.mk (by rw [eg]; exact HS.out); replace HU := Aside0.mk HNU; clear HNU eg; replace HA := Aside0.mk (HA.out.on hb2); replace HM := Aside0.mk (HM.out.on hb2); replace HR := Aside0.mk (HR.out.on hb2); replace HB := Aside0.mk (bl_on HB.out hb2 HB.out.size); replace HS := Aside0.mk (Nat.le_trans HS.out hb2.size); clear hb2) | ((with_reducible refine gate_st (y := .tmp 14) rfl ?_); (try simp only [aS]); refine st_num (HU.out) rfl _ _ rfl rfl rfl ?_; intro s_U hA_ hT_; replace HA := Aside0.mk (HA.out.but hT_ (by first | omega | (have := HXgU.out; omega))); replace HM := Aside0.mk (HM.out.but hT_ (by first | omega | (have := HXgU.out; omega))); replace HR := Aside0.mk (HR.out.but hT_ (by first | omega | (have := HXgU.out; omega))); replace HU := Aside0.mk hA_; replace HB := Aside0.mk (bl_but HB.out hT_ HB.out.size (by have := HXgU.out; omega)); replace HS := Aside0.mk (Nat.le_trans HS.out hT_.size); clear hA_ hT_))
 go_upto_region 3 with (first | ((with_reducible refine gate_dst (N := 15) rfl ?_); refine ld_num (HM.out.range) rfl _ rfl rfl ?_) | ((with_reducible refine gate_dst (N := 7) rfl ?_); refine al_num rfl _ rfl rfl ?_; intro gV a_V eg HNV hb2; have HXgV : Aside0 (gU < gV ∧ w.heap.size + 1 + 1 + 1 ≤ gV) := Aside0.mk (by rw [eg]; exact ⟨HU.out.size, HS.out⟩); replace HV := Aside0.mk HNV; clear HNV eg; replace HA := Aside0.mk (HA.out.on hb2); replace HM := Aside0.mk (HM.out.on hb2); replace HR := Aside0.mk (HR.out.on hb2); replace HU := Aside0.mk (HU.out.on hb2); replace HB := Aside0.mk (bl_on HB.out hb2 HB.out.size); replace HS := Aside0.mk (Nat.le_trans HS.out hb2.size); clear hb2) | ((with_reducible refine gate_st (y := .tmp 15) rfl ?_); (try simp only [aS]); refine st_num (HV.out) rfl _ _ rfl rfl rfl ?_; intro s_V hA_ hT_; replace HA := Aside0.mk (HA.out.but hT_ (by first | omega | (have := HXgU.out; have := HXgV.out; omega))); replace HM := Aside0.mk (HM.out.but hT_ (by first | omega | (have := HXgU.out; have := HXgV.out; omega))); replace HR := Aside0.mk (HR.out.but hT_ (by first | omega | (have := HXgU.out; have := HXgV.out; omega))); replace HU := Aside0.mk (HU.out.but hT_ (by first | omega | (have := HXgU.out; have := HXgV.out; omega))); replace HV := Aside0.mk hA_; replace HB := Aside0.mk (bl_but HB.out hT_ HB.out.size (by have := HXgV.out; omega)); replace HS := Aside0.mk (Nat.le_trans HS.out hT_.size); clear hA_ hT_))
 go_upto_region 4 with (first | ((with_reducible refine gate_dst (N := 8) rfl ?_); refine al_num rfl _ rfl rfl ?_; intro gX a_X eg HNX hb2; have HXgX : Aside0 (gU < gX ∧ gV < gX ∧ w.heap.size + 1 + 1 + 1 ≤ gX) := Aside0.mk (by rw [eg]; exact ⟨HU.out.size, HV.out.size, HS.out⟩); replace HX := Aside0.mk HNX; clear HNX eg; replace HA := Aside0.mk (HA.out.on hb2); replace HM := Aside0.mk (HM.out.on hb2); replace HR := Aside0.mk (HR.out.on hb2); replace HU := Aside0.mk (HU.out.on hb2); replace HV := Aside0.mk (HV.out.on hb2); replace HB := Aside0.mk (bl_on HB.out hb2 HB.out.size); replace HS := Aside0.mk (Nat.le_trans HS.out hb2.size); clear hb2) | ((with_reducible refine gate_st (y := .tmp 16) rfl ?_); (try simp only [aS]); refine st_num (n := 1) (HX.out) rfl _ _ rfl rfl rfl ?_; intro s_X hA_ hT_; replace HA := Aside0.mk (HA.out.but hT_ (by first | omega | (have := HXgU.out; have := HXgV.out; have := HXgX.out; omega))); replace HM := Aside0.mk (HM.out.but hT_ (by first | omega | (have := HXgU.out; have := HXgV.out; have := HXgX.out; omega))); replace HR := Aside0.mk (HR.out.but hT_ (by first | omega | (have := HXgU.out; have := HXgV.out; have := HXgX.out; omega))); replace HU := Aside0.mk (HU.out.but hT_ (by first | omega | (have := HXgU.out; have := HXgV.out; have := HXgX.out; omega))); replace HV := Aside0.mk (HV.out.but hT_ (by first | omega | (have := HXgU.out; have := HXgV.out; have := HXgX.out; omega))); replace HX := Aside0.mk hA_; replace HB := Aside0.mk (bl_but HB.out hT_ HB.out.size (by have := HXgX.out; omega)); replace HS := Aside0.mk (Nat.le_trans HS.out hT_.size); clear hA_ hT_))
 go_upto_region 5 with (first | ((with_reducible refine gate_dst (N := 9) rfl ?_); refine al_num rfl _ rfl rfl ?_; intro gY a_Y eg HNY hb2; have HXgY : Aside0 (gU < gY ∧ gV < gY ∧ gX < gY ∧ w.heap.size + 1 + 1 + 1 ≤ gY) := Aside0.mk (by rw [eg]; exact ⟨HU.out.size, HV.out.size, HX.out.size, HS.out⟩); replace HY := Aside0.mk HNY; clear HNY eg; replace HA := Aside0.mk (HA.out.on hb2); replace HM := Aside0.mk (HM.out.on hb2); replace HR := Aside0.mk (HR.out.on hb2); replace HU := Aside0.mk (HU.out.on hb2); replace HV := Aside0.mk (HV.out.on hb2); replace HX := Aside0.mk (HX.out.on hb2); replace HB := Aside0.mk (bl_on HB.out hb2 HB.out.size); replace HS := Aside0.mk (Nat.le_trans HS.out hb2.size); clear hb2) | ((with_reducible refine gate_st (y := .tmp 17) rfl ?_); (try simp only [aS]); refine st_num (n := 0) (HY.out) rfl _ _ rfl rfl rfl ?_; intro s_Y hA_ hT_; replace HA := Aside0.mk (HA.out.but hT_ (by first | omega | (have := HXgU.out; have := HXgV.out; have := HXgX.out; have := HXgY.out; omega))); replace HM := Aside0.mk (HM.out.but hT_ (by first | omega | (have := HXgU.out; have := HXgV.out; have := HXgX.out; have := HXgY.out; omega))); replace HR := Aside0.mk (HR.out.but hT_ (by first | omega | (have := HXgU.out; have := HXgV.out; have := HXgX.out; have := HXgY.out; omega))); replace HU := Aside0.mk (HU.out.but hT_ (by first | omega | (have := HXgU.out; have := HXgV.out; have := HXgX.out; have := HXgY.out; omega))); replace HV := Aside0.mk (HV.out.but hT_ (by first | omega | (have := HXgU.out; have := HXgV.out; have := HXgX.out; have := HXgY.out; omega))); replace HX := Aside0.mk (HX.out.but hT_ (by first | omega | (have := HXgU.out; have := HXgV.out; have := HXgX.out; have := HXgY.out; omega))); replace HY := Aside0.mk hA_; replace HB := Aside0.mk (bl_but HB.out hT_ HB.out.size (by have := HXgY.out; omega)); replace HS := Aside0.mk (Nat.le_trans HS.out hT_.size); clear hA_ hT_))
 go_upto_region 6 with (first | ((with_reducible refine gate_dst (N := 10) rfl ?_); refine al_num rfl _ rfl rfl ?_; intro gZ a_Z eg HNZ hb2; have HXgZ : Aside0 (gU < gZ ∧ gV < gZ ∧ gX < gZ ∧ gY < gZ ∧ w.heap.size + 1 + 1 + 1 ≤ gZ) := Aside0.mk (by rw [eg]; exact ⟨HU.out.size, HV.out.size, HX.out.size, HY.out.size, HS.out⟩); replace HZ := Aside0.mk HNZ; clear HNZ eg; replace HA := Aside0.mk (HA.out.on hb2); replace HM := Aside0.mk (HM.out.on hb2); replace HR := Aside0.mk (HR.out.on hb2); replace HU := Aside0.mk (HU.out.on hb2); replace HV := Aside0.mk (HV.out.on hb2); replace HX := Aside0.mk (HX.out.on hb2); replace HY := Aside0.mk (HY.out.on hb2); replace HB := Aside0.mk (bl_on HB.out hb2 HB.out.size); replace HS := Aside0.mk (Nat.le_trans HS.out hb2.size); clear hb2) | ((with_reducible refine gate_st (y := .tmp 18) rfl ?_); (try simp only [aS]); refine st_num (n := 0) (HZ.out) rfl _ _ rfl rfl rfl ?_; intro s_Z hA_ hT_; replace HA := Aside0.mk (HA.out.but hT_ (by first | omega | (have := HXgU.out; have := HXgV.out; have := HXgX.out; have := HXgY.out; have := HXgZ.out; omega))); replace HM := Aside0.mk (HM.out.but hT_ (by first | omega | (have := HXgU.out; have := HXgV.out; have := HXgX.out; have := HXgY.out; have := HXgZ.out; omega))); replace HR := Aside0.mk (HR.out.but hT_ (by first | omega | (have := HXgU.out; have := HXgV.out; have := HXgX.out; have := HXgY.out; have := HXgZ.out; omega))); replace HU := Aside0.mk (HU.out.but hT_ (by first | omega | (have := HXgU.out; have := HXgV.out; have := HXgX.out; have := HXgY.out; have := HXgZ.out; omega))); replace HV := Aside0.mk (HV.out.but hT_ (by first | omega | (have := HXgU.out; have := HXgV.out; have := HXgX.out; have := HXgY.out; have := HXgZ.out; omega))); replace HX := Aside0.mk (HX.out.but hT_ (by first | omega | (have := HXgU.out; have := HXgV.out; have := HXgX.out; have := HXgY.out; have := HXgZ.out; omega))); replace HY := Aside0.mk (HY.out.but hT_ (by first | omega | (have := HXgU.out; have := HXgV.out; have := HXgX.out; have := HXgY.out; have := HXgZ.out; omega))); replace HZ := Aside0.mk hA_; replace HB := Aside0.mk (bl_but HB.out hT_ HB.out.size (by have := HXgZ.out; omega)); replace HS := Aside0.mk (Nat.le_trans HS.out hT_.size); clear hA_ hT_))
 go_wp2
 go_loopw [11] (fun vk wr => ∃ k un vn xn yn : Nat, vk = .int .i64 (k : Int) ∧ Aside0 (RI m a un vn xn yn k) ∧ Aside0 (NAt wr (w.heap.size) (a)) ∧ Aside0 (NAt wr (w.heap.size + 1) (m)) ∧ Aside0 (NAt wr (w.heap.size + 1 + 1) (0)) ∧ Aside0 (NAt wr (gU) (un)) ∧ Aside0 (NAt wr (gV) (vn)) ∧ Aside0 (NAt wr (gX) (xn)) ∧ Aside0 (NAt wr (gY) (yn)) ∧ Aside0 (NAt wr (gZ) (0)) ∧ Aside0 (Below w.heap.size w wr) ∧ Aside0 (w.heap.size + 1 + 1 + 1 ≤ wr.heap.size))
  (fun vk _ => 1100 - (intOf vk).toNat)
 case atStart => exact ⟨0, a, m, 1, 0, rfl, HST, HA, HM, HR, HU, HV, HX, HY, HZ, HB, HS⟩
 case round =>
  clear HA HM HR HU HV HX HY HZ HB HS HST
  obtain ⟨k, un, vn, xn, yn, rfl, HI, HA, HM, HR, HU, HV, HX, HY, HZ, HB, HS⟩ := hrel
  obtain ⟨u0, hu0⟩ : ∃ x, x = wr := ⟨_, rfl⟩
  subst hu0
  have hk : k ≤ 1025 := by have := HI.out.ph; omega
  have HK := Aside0.mk hk
  have t1 : (k : Int) < 1100 := by omega
  have q0 := fun w => neq_two HI.out.lu w (b := 0)
  by_cases h0 : un = 0
  ·have d1 : (!decide (un = 0)) = false := by simp [h0]
   rw [d1] at q0
   have hin := HI.out
   rw [h0] at hin
   have HFD : Aside0 ((decide (vn = 1) = true → invO m a = some yn) ∧ (decide (vn = 1) = false → invO m a = none)) := Aside0.mk ⟨fun h => hin.found HCM.out.2.2 (of_decide_eq_true h), fun h => hin.lost HCM.out.2.2 (of_decide_eq_false h)⟩
   have q1 := fun w => eql_one HI.out.lv w
   generalize decide (vn = 1) = D at *
   clear hk h0 d1 hin
   go_upto_region 26 with (first | ((with_reducible refine gate_dst (N := 22) rfl ?_); refine ld_numG (HU.out.range) (by rfl) _ rfl rfl ?_) | ((with_reducible refine gate_dst (N := 23) rfl ?_); refine ld_numG (HZ.out.range) (by rfl) _ rfl rfl ?_))
   refine start_ (n := 6) (S := fun w' => NAt w' gV vn ∧ NAt w' gY yn) (ds := []) (bs 6 0) (by kernel_rfl) rfl rfl ⟨HV.out.drew, HY.out.drew⟩ (fun hHeld => ?_)
   refine pu_ 2 79 (bs 6 4) ?_ ?_ ?_ ?_ ?_
   rotate_left
   ·intro w'
    go_simp
    with_reducible rfl
   rotate_left
   ·simp only [aS, i64_w, i32_w]
    rfl
   refine take_ (i := 0) (N := some 77) (a' := ?_) (bs 6 5) rfl rfl (by kernel_rfl) (fun _ _ _ h => h) (yields_num (g := gY) (o := 0) (n := yn) (by rfl) (.tmp 9) rfl rfl (fun w' hS => hS.2.range)) hHeld ?_ ?_
   rotate_left
   ·simp only [aS, i64_w, i32_w]
    rfl
   refine take_ (i := 1) (N := some 78) (a' := ?_) (bs 6 7) rfl rfl (by kernel_rfl) (fun _ _ _ h => h) (yields_num (g := gV) (o := 0) (n := vn) (by rfl) (.tmp 7) rfl rfl (fun w' hS => hS.1.range)) hHeld ?_ ?_
   rotate_left
   ·simp only [aS, i64_w, i32_w]
    rfl
   refine pu_ 3 80 (bs 6 15) ?_ ?_ ?_ ?_ ?_
   rotate_left
   ·intro w'
    go_simp
    with_reducible rfl
   rotate_left
   ·simp only [aS, i64_w, i32_w]
    rfl
   refine on1_ 4 none (bs 6 31) rfl fun K hK => ?_
   refine skip_num HR.out.drew (by rfl) rfl (.tmp 4) (.tmp 77) rfl rfl rfl ?_
   intro u3 hA3 hT3
   refine hK.out _ _ ⟨hHeld.1.but hT3 (by have := HXgV.out; omega), hHeld.2.but hT3 (by have := HXgY.out; omega)⟩ (fun hHeld => ?_)
   clear hK K
   refine pu_ 5 5 (bs 6 63) ?_ ?_ ?_ ?_ ?_
   rotate_left
   ·intro w'
    go_simp
    with_reducible rfl
   rotate_left
   ·simp only [aS, i64_w, i32_w]
    rfl
   refine done_ (by kernel_rfl) ?_
   clear hHeld
   have hd_ : Below u0.heap.size u0 (World.drew u0) := (Below.refl _ _).drew
   replace HA := Aside0.mk (HA.out.on hd_)
   replace HM := Aside0.mk (HM.out.on hd_)
   replace HR := Aside0.mk (HR.out.on hd_)
   replace HU := Aside0.mk (HU.out.on hd_)
   replace HV := Aside0.mk (HV.out.on hd_)
   replace HX := Aside0.mk (HX.out.on hd_)
   replace HY := Aside0.mk (HY.out.on hd_)
   replace HZ := Aside0.mk (HZ.out.on hd_)
   replace HB := Aside0.mk (bl_on HB.out hd_ HB.out.size)
   replace HS := Aside0.mk (Nat.le_trans HS.out hd_.size)
   clear hd_
   generalize World.drew u0 = u1 at *
   replace HA := Aside0.mk (HA.out.but hT3 (by first | omega | (have := HXgU.out; have := HXgV.out; have := HXgX.out; have := HXgY.out; have := HXgZ.out; omega)))
   replace HM := Aside0.mk (HM.out.but hT3 (by first | omega | (have := HXgU.out; have := HXgV.out; have := HXgX.out; have := HXgY.out; have := HXgZ.out; omega)))
   replace HU := Aside0.mk (HU.out.but hT3 (by first | omega | (have := HXgU.out; have := HXgV.out; have := HXgX.out; have := HXgY.out; have := HXgZ.out; omega)))
   replace HV := Aside0.mk (HV.out.but hT3 (by first | omega | (have := HXgU.out; have := HXgV.out; have := HXgX.out; have := HXgY.out; have := HXgZ.out; omega)))
   replace HX := Aside0.mk (HX.out.but hT3 (by first | omega | (have := HXgU.out; have := HXgV.out; have := HXgX.out; have := HXgY.out; have := HXgZ.out; omega)))
   replace HY := Aside0.mk (HY.out.but hT3 (by first | omega | (have := HXgU.out; have := HXgV.out; have := HXgX.out; have := HXgY.out; have := HXgZ.out; omega)))
   replace HZ := Aside0.mk (HZ.out.but hT3 (by first | omega | (have := HXgU.out; have := HXgV.out; have := HXgX.out; have := HXgY.out; have := HXgZ.out; omega)))
   replace HR := Aside0.mk hA3
   replace HB := Aside0.mk (bl_but HB.out hT3 HB.out.size (by have := HXgU.out; have := HXgV.out; have := HXgX.out; have := HXgY.out; have := HXgZ.out; omega))
   replace HS := Aside0.mk (Nat.le_trans HS.out hT3.size)
   clear hA3 hT3
   go_wp2
   exact bodyPost_ret (v := .tuple #[numV yn, .bool D]) (results_two rfl rfl rfl HR.out) rfl ⟨⟨yn, D, rfl, HFD.out.1, HFD.out.2⟩, HB.out⟩
  ·have d1 : (!decide (un = 0)) = true := by simp [h0]
   rw [d1] at q0
   obtain ⟨b0, hb0⟩ : ∃ b, b = un % 2 := ⟨_, rfl⟩
   have f1 : ((wd0 un : Nat) : Int) % 2 = (b0 : Int) := by rw [hb0, ← wd0_even]; omega
   have qk := inc1100 hk
   have HQK := Aside0.mk qk
   by_cases hev : un % 2 = 0
   ·have d2 := b_even (b := b0) (by omega)
    have HI2 := Aside0.mk (HI.out.half HCM.out.2.1 h0 hev)
    have HH := Aside0.mk (fun u => rhalf_calls xn m u HCM.out.1 (Nat.lt_trans HI.out.lx HCM.out.1))
    have HUN := Aside0.mk HI.out.lu
    obtain ⟨x2, hx2⟩ : ∃ x, x = hf m xn := ⟨_, rfl⟩
    rw [← hx2] at HH HI2
    have ca0 := HU.out.cell.1
    clear hk h0 d1 hb0 hev hx2 qk
    go_upto_region 10 with (first | ((with_reducible refine gate_dst (N := 22) rfl ?_); refine ld_numG (HU.out.range) (by rfl) _ rfl rfl ?_) | ((with_reducible refine gate_dst (N := 23) rfl ?_); refine ld_numG (HZ.out.range) (by rfl) _ rfl rfl ?_))
    clear ca0 f1 d2 q0 t1
    go_upto_region 11 with (first | ((with_reducible refine gate_dst (N := 32) rfl ?_); refine ld_num (HX.out.range) rfl _ rfl rfl ?_) | ((with_reducible refine gate_dst (N := 33) rfl ?_); refine ld_num (HM.out.range) rfl _ rfl rfl ?_) | ((with_reducible refine gate_callee (f := 66) rfl ?_); refine goesL_ (some 34) rfl rfl Try.func66 (by kernel_rfl) rfl #[numV xn, numV m] rfl (by (try simp only [List.map_toArray, List.map_cons, List.map_nil]); first | done | rfl) ?_; (with_reducible refine (HH.out _).mono ?_); rintro e u1 ⟨rfl, hb1⟩; replace HA := Aside0.mk (HA.out.on hb1); replace HM := Aside0.mk (HM.out.on hb1); replace HR := Aside0.mk (HR.out.on hb1); replace HU := Aside0.mk (HU.out.on hb1); replace HV := Aside0.mk (HV.out.on hb1); replace HX := Aside0.mk (HX.out.on hb1); replace HY := Aside0.mk (HY.out.on hb1); replace HZ := Aside0.mk (HZ.out.on hb1); replace HB := Aside0.mk (bl_on HB.out hb1 HB.out.size); replace HS := Aside0.mk (Nat.le_trans HS.out hb1.size); clear hb1; refine ⟨_, rfl, ?_⟩) | ((with_reducible refine gate_st (y := .tmp 34) rfl ?_); (try simp only [aS]); refine st_num (HX.out) rfl _ _ rfl rfl rfl ?_; intro u2 hA2 hT2; replace HA := Aside0.mk (HA.out.but hT2 (by first | omega | (have := HXgU.out; have := HXgV.out; have := HXgX.out; have := HXgY.out; have := HXgZ.out; omega))); replace HM := Aside0.mk (HM.out.but hT2 (by first | omega | (have := HXgU.out; have := HXgV.out; have := HXgX.out; have := HXgY.out; have := HXgZ.out; omega))); replace HR := Aside0.mk (HR.out.but hT2 (by first | omega | (have := HXgU.out; have := HXgV.out; have := HXgX.out; have := HXgY.out; have := HXgZ.out; omega))); replace HU := Aside0.mk (HU.out.but hT2 (by first | omega | (have := HXgU.out; have := HXgV.out; have := HXgX.out; have := HXgY.out; have := HXgZ.out; omega))); replace HV := Aside0.mk (HV.out.but hT2 (by first | omega | (have := HXgU.out; have := HXgV.out; have := HXgX.out; have := HXgY.out; have := HXgZ.out; omega))); replace HY := Aside0.mk (HY.out.but hT2 (by first | omega | (have := HXgU.out; have := HXgV.out; have := HXgX.out; have := HXgY.out; have := HXgZ.out; omega))); replace HZ := Aside0.mk (HZ.out.but hT2 (by first | omega | (have := HXgU.out; have := HXgV.out; have := HXgX.out; have := HXgY.out; have := HXgZ.out; omega))); replace HX := Aside0.mk hA2; replace HB := Aside0.mk (bl_but HB.out hT2 HB.out.size (by have := HXgU.out; have := HXgV.out; have := HXgX.out; have := HXgY.out; have := HXgZ.out; omega)); replace HS := Aside0.mk (Nat.le_trans HS.out hT2.size); clear hA2 hT2))
    go_wp2
    clear HH
    have HVU : Aside0 (HAt u2 gU un 0) := Aside0.mk (HAt.of HU.out)
    go_loopw [12] (fun vi wr => ∃ i : Nat, i ≤ 4 ∧ vi = .int .i64 (i : Int) ∧ Aside0 (HAt wr (gU) un i) ∧ Aside0 (NAt wr (w.heap.size) (a)) ∧ Aside0 (NAt wr (w.heap.size + 1) (m)) ∧ Aside0 (NAt wr (w.heap.size + 1 + 1) (0)) ∧ Aside0 (NAt wr (gV) (vn)) ∧ Aside0 (NAt wr (gX) (x2)) ∧ Aside0 (NAt wr (gY) (yn)) ∧ Aside0 (NAt wr (gZ) (0)) ∧ Aside0 (Below w.heap.size w wr) ∧ Aside0 (w.heap.size + 1 + 1 + 1 ≤ wr.heap.size))
     (fun vi _ => 4 - (intOf vi).toNat)
    case atStart => exact ⟨0, Nat.zero_le _, rfl, HVU, HA, HM, HR, HV, HX, HY, HZ, HB, HS⟩
    case round =>
     clear HVU HA HM HR HV HX HY HZ HB HS HU
     obtain ⟨i, hi, rfl, HVU, HA, HM, HR, HV, HX, HY, HZ, HB, HS⟩ := hrel
     obtain ⟨y0, hy0_⟩ : ∃ x, x = wr := ⟨_, rfl⟩
     subst hy0_
     by_cases hlt : i < 4
     ·have t1 : (i : Int) < 4 := by omega
      have t0 : (0 : Int) ≤ (i : Int) := Int.natCast_nonneg i
      obtain ⟨y, hy⟩ : ∃ y, y = xw un i / 2 := ⟨_, rfl⟩
      obtain ⟨x, hx⟩ : ∃ x, x = xw un i := ⟨_, rfl⟩
      have cx := HVU.out.cell i hlt (Nat.le_refl _)
      rw [← hx] at cx
      have f1 := div_two x y (by rw [hx]; exact hy) (by rw [hy]; exact xw_half _ _)
      have zt := HVU.out.free i
      obtain ⟨j, hj⟩ : ∃ j, j = i + 1 := ⟨_, rfl⟩
      have q2 := wrap_inc i j hj hlt
      have q3 := inc_as i j hj
      have HYY := Aside0.mk (And.intro hlt (And.intro hy hj))
      have hyl : y < 9223372036854775808 := by rw [hy]; exact xw_half _ _
      have HYL := Aside0.mk hyl
      clear hi hx hy hj hyl
      go_upto_region 15 with (fail)
      clear cx zt f1
      have hA_ : IAt (World.setCell y0 ⟨gU, i, none⟩ (.int .u64 (y : Int))) (gU) un i y := HVU.out.set y
      have hT_ : But y0.heap.size (gU) y0 (World.setCell y0 ⟨gU, i, none⟩ (.int .u64 (y : Int))) := but_set _ _ _
      generalize (World.setCell y0 ⟨gU, i, none⟩ (.int .u64 (y : Int))) = y1 at *
      replace HA := Aside0.mk (HA.out.but hT_ (by first | omega | (have := HXgU.out; have := HXgV.out; have := HXgX.out; have := HXgY.out; have := HXgZ.out; omega)))
      replace HM := Aside0.mk (HM.out.but hT_ (by first | omega | (have := HXgU.out; have := HXgV.out; have := HXgX.out; have := HXgY.out; have := HXgZ.out; omega)))
      replace HR := Aside0.mk (HR.out.but hT_ (by first | omega | (have := HXgU.out; have := HXgV.out; have := HXgX.out; have := HXgY.out; have := HXgZ.out; omega)))
      replace HV := Aside0.mk (HV.out.but hT_ (by first | omega | (have := HXgU.out; have := HXgV.out; have := HXgX.out; have := HXgY.out; have := HXgZ.out; omega)))
      replace HX := Aside0.mk (HX.out.but hT_ (by first | omega | (have := HXgU.out; have := HXgV.out; have := HXgX.out; have := HXgY.out; have := HXgZ.out; omega)))
      replace HY := Aside0.mk (HY.out.but hT_ (by first | omega | (have := HXgU.out; have := HXgV.out; have := HXgX.out; have := HXgY.out; have := HXgZ.out; omega)))
      replace HZ := Aside0.mk (HZ.out.but hT_ (by first | omega | (have := HXgU.out; have := HXgV.out; have := HXgX.out; have := HXgY.out; have := HXgZ.out; omega)))
      have HIU := Aside0.mk hA_
      replace HB := Aside0.mk (bl_but HB.out hT_ HB.out.size (by have := HXgU.out; have := HXgV.out; have := HXgX.out; have := HXgY.out; have := HXgZ.out; omega))
      replace HS := Aside0.mk (Nat.le_trans HS.out hT_.size)
      clear hA_ hT_
      clear HVU
      by_cases h3 : i < 3
      ·obtain ⟨z, hz⟩ : ∃ z, z = xw un j := ⟨_, rfl⟩
       obtain ⟨b, hb⟩ : ∃ b, b = z % 2 := ⟨_, rfl⟩
       have f2 := mod_two z b hb
       have cz := HIU.out.next j (by have := HYY.out.2.2; omega) HYY.out.2.2
       rw [← hz] at cz
       have t3 : (i : Int) < 3 := by omega
       have t4 : (0 : Int) ≤ (j : Int) := Int.natCast_nonneg j
       have t5 : (j : Int) < 4 := by have := HYY.out.2.2; omega
       have HZq := Aside0.mk (And.intro hz (And.intro hb h3))
       rcases bit_two z with hb0 | hb0
       ·have d1 := b_not (b := b) (by rw [hb]; exact hb0)
        have HV0 := Aside0.mk hb0
        clear hz hb h3 hb0
        go_upto_region 13 with (fail)
        clear cz f2 d1 t3 t4 t5
        have HDU : Aside0 (HAt _ (gU) un j) := Aside0.mk (by rw [HYY.out.2.2]; exact HIU.out.done HYY.out.1 (by rw [HYY.out.2.1]; exact (hword_even _ _ (by rw [← HYY.out.2.2, ← HZq.out.1]; exact HV0.out)).symm))
        go_wp2
        refine ⟨⟨j, ?_, ?_, HDU, HA, HM, HR, HV, HX, HY, HZ, HB, HS⟩, ?_⟩
        ·rw [HYY.out.2.2]; exact HYY.out.1
        ·first | rfl | (rw [q2]; done) | (rw [q2]; rfl) | (rw [q3])
        ·first | exact meas4c HYY.out.1 HYY.out.2.2 | (rw [q2]; exact meas4c HYY.out.1 HYY.out.2.2) | (rw [q3]; exact meas4c HYY.out.1 HYY.out.2.2)
       ·have d1 := b_one (b := b) (by rw [hb]; exact hb0)
        have HV0 := Aside0.mk hb0
        clear hz hb h3 hb0
        have cy := HIU.out.cell HYY.out.1
        have zy := HIU.out.free i
        have f3 := wrap_top y HYL.out
        obtain ⟨y2, hy2⟩ : ∃ x, x = y + 9223372036854775808 := ⟨_, rfl⟩
        rw [← hy2] at f3
        have HYq := Aside0.mk hy2
        clear hy2
        go_upto_region 13 with (fail)
        clear cz f2 d1 t3 t4 t5 cy zy f3
        have hA_ : IAt (World.setCell y1 ⟨gU, i, none⟩ (.int .u64 (y2 : Int))) (gU) un i y2 := HIU.out.set y2
        have hT_ : But y1.heap.size (gU) y1 (World.setCell y1 ⟨gU, i, none⟩ (.int .u64 (y2 : Int))) := but_set _ _ _
        generalize (World.setCell y1 ⟨gU, i, none⟩ (.int .u64 (y2 : Int))) = y3 at *
        replace HA := Aside0.mk (HA.out.but hT_ (by first | omega | (have := HXgU.out; have := HXgV.out; have := HXgX.out; have := HXgY.out; have := HXgZ.out; omega)))
        replace HM := Aside0.mk (HM.out.but hT_ (by first | omega | (have := HXgU.out; have := HXgV.out; have := HXgX.out; have := HXgY.out; have := HXgZ.out; omega)))
        replace HR := Aside0.mk (HR.out.but hT_ (by first | omega | (have := HXgU.out; have := HXgV.out; have := HXgX.out; have := HXgY.out; have := HXgZ.out; omega)))
        replace HV := Aside0.mk (HV.out.but hT_ (by first | omega | (have := HXgU.out; have := HXgV.out; have := HXgX.out; have := HXgY.out; have := HXgZ.out; omega)))
        replace HX := Aside0.mk (HX.out.but hT_ (by first | omega | (have := HXgU.out; have := HXgV.out; have := HXgX.out; have := HXgY.out; have := HXgZ.out; omega)))
        replace HY := Aside0.mk (HY.out.but hT_ (by first | omega | (have := HXgU.out; have := HXgV.out; have := HXgX.out; have := HXgY.out; have := HXgZ.out; omega)))
        replace HZ := Aside0.mk (HZ.out.but hT_ (by first | omega | (have := HXgU.out; have := HXgV.out; have := HXgX.out; have := HXgY.out; have := HXgZ.out; omega)))
        replace HIU := Aside0.mk hA_
        replace HB := Aside0.mk (bl_but HB.out hT_ HB.out.size (by have := HXgU.out; have := HXgV.out; have := HXgX.out; have := HXgY.out; have := HXgZ.out; omega))
        replace HS := Aside0.mk (Nat.le_trans HS.out hT_.size)
        clear hA_ hT_
        have HDU : Aside0 (HAt _ (gU) un j) := Aside0.mk (by rw [HYY.out.2.2]; exact HIU.out.done HYY.out.1 (by rw [HYq.out, HYY.out.2.1]; exact (hword_odd _ _ HZq.out.2.2 (by rw [← HYY.out.2.2, ← HZq.out.1]; exact HV0.out)).symm))
        go_wp2
        refine ⟨⟨j, ?_, ?_, HDU, HA, HM, HR, HV, HX, HY, HZ, HB, HS⟩, ?_⟩
        ·rw [HYY.out.2.2]; exact HYY.out.1
        ·first | rfl | (rw [q2]; done) | (rw [q2]; rfl) | (rw [q3])
        ·first | exact meas4c HYY.out.1 HYY.out.2.2 | (rw [q2]; exact meas4c HYY.out.1 HYY.out.2.2) | (rw [q3]; exact meas4c HYY.out.1 HYY.out.2.2)
      ·have t3 : ¬ (i : Int) < 3 := by omega
       have HV0 := Aside0.mk h3
       have t3 : decide ((i : Int) < 3) = false := decide_eq_false t3
       clear h3
       go_upto_region 13 with (fail)
       clear t3
       have HDU : Aside0 (HAt _ (gU) un j) := Aside0.mk (by rw [HYY.out.2.2]; exact HIU.out.done HYY.out.1 (by rw [HYY.out.2.1]; exact (hword_last _ _ HV0.out).symm))
       go_wp2
       refine ⟨⟨j, ?_, ?_, HDU, HA, HM, HR, HV, HX, HY, HZ, HB, HS⟩, ?_⟩
       ·rw [HYY.out.2.2]; exact HYY.out.1
       ·first | rfl | (rw [q2]; done) | (rw [q2]; rfl) | (rw [q3])
       ·first | exact meas4c HYY.out.1 HYY.out.2.2 | (rw [q2]; exact meas4c HYY.out.1 HYY.out.2.2) | (rw [q3]; exact meas4c HYY.out.1 HYY.out.2.2)
     ·have hi4 : i = 4 := by omega
      subst hi4
      have HU := Aside0.mk (HVU.out.num HUN.out)
      clear HVU hi hlt
      rw [show ((4 : Nat) : Int) = 4 from rfl]
      have qk := HQK.out
      go_wp2
      refine ⟨⟨k + 1, un / 2, vn, x2, yn, ?_, HI2, HA, HM, HR, HU, HV, HX, HY, HZ, HB, HS⟩, ?_⟩
      ·(try rw [qk]); rw [Int.natCast_add]; rfl
      ·(try rw [qk]); exact meas1100 HK.out
   ·have d2 := b_odd (b := b0) (by omega)
    have ho : un % 2 = 1 := by omega
    have HL := Aside0.mk (fun u => less_calls (IsNum.mk HI.out.lu) (IsNum.mk HI.out.lv) u)
    have ca0 := HU.out.cell.1
    by_cases hlt : un < vn
    ·have HI2 := Aside0.mk (HI.out.swap ho)
     rw [decide_eq_true hlt] at HL
     have HO2 := Aside0.mk (And.intro HI.out.vo (Nat.le_of_lt hlt))
     clear hk h0 d1 hb0 hev ho hlt
     have hst := HI2.out.sub HO2.out.1 HO2.out.2
     obtain ⟨n, hn⟩ : ∃ n, n = vn - un := ⟨_, rfl⟩
     obtain ⟨c, hc⟩ : ∃ c, c = (yn + m - xn) % m := ⟨_, rfl⟩
     rw [← hn, ← hc] at hst
     have HMI := Aside0.mk (fun u => minus_calls (IsNum.mk HI2.out.lu) (IsNum.mk HI2.out.lv) u)
     have hsn : (vn + N256 - un) % N256 = n := by rw [hn, show vn + N256 - un = (vn - un) + N256 by have := HO2.out.2; omega, Nat.add_mod_right, Nat.mod_eq_of_lt (Nat.lt_of_le_of_lt (Nat.sub_le _ _) HI2.out.lu)]
     rw [hsn] at HMI
     have HSU := Aside0.mk (fun u => rsub_calls yn xn m u HCM.out.1 HI2.out.lx HI2.out.ly)
     rw [← hc] at HSU
     have HST := Aside0.mk hst
     clear hn hc hsn hst qk
     go_upto_region 24 with (first | ((with_reducible refine gate_dst (N := 22) rfl ?_); refine ld_numG (HU.out.range) (by rfl) _ rfl rfl ?_) | ((with_reducible refine gate_dst (N := 23) rfl ?_); refine ld_numG (HZ.out.range) (by rfl) _ rfl rfl ?_) | ((with_reducible refine gate_dst (N := 61) rfl ?_); refine ld_num (HU.out.range) rfl _ rfl rfl ?_) | ((with_reducible refine gate_dst (N := 62) rfl ?_); refine ld_num (HV.out.range) rfl _ rfl rfl ?_) | ((with_reducible refine gate_callee (f := 63) rfl ?_); refine goesL_ (some 63) rfl rfl Try.func63 (by kernel_rfl) rfl #[numV un, numV vn] rfl (by (try simp only [List.map_toArray, List.map_cons, List.map_nil]); first | done | rfl) ?_; (with_reducible refine (HL.out _).mono ?_); rintro e u1 ⟨rfl, hb1⟩; clear ca0; replace HA := Aside0.mk (HA.out.on hb1); replace HM := Aside0.mk (HM.out.on hb1); replace HR := Aside0.mk (HR.out.on hb1); replace HU := Aside0.mk (HU.out.on hb1); replace HV := Aside0.mk (HV.out.on hb1); replace HX := Aside0.mk (HX.out.on hb1); replace HY := Aside0.mk (HY.out.on hb1); replace HZ := Aside0.mk (HZ.out.on hb1); replace HB := Aside0.mk (bl_on HB.out hb1 HB.out.size); replace HS := Aside0.mk (Nat.le_trans HS.out hb1.size); clear hb1; refine ⟨_, rfl, ?_⟩) | ((with_reducible refine gate_dst (N := 64) rfl ?_); refine ld_num (HU.out.range) rfl _ rfl rfl ?_) | ((with_reducible refine gate_dst (N := 13) rfl ?_); refine al_num rfl _ rfl rfl ?_; intro gT u2 eg HNT hb2; have HXgT : Aside0 (gU < gT ∧ gV < gT ∧ gX < gT ∧ gY < gT ∧ gZ < gT ∧ w.heap.size + 1 + 1 + 1 ≤ gT) := Aside0.mk (by rw [eg]; exact ⟨HU.out.size, HV.out.size, HX.out.size, HY.out.size, HZ.out.size, HS.out⟩); replace HT := Aside0.mk HNT; clear HNT eg; replace HA := Aside0.mk (HA.out.on hb2); replace HM := Aside0.mk (HM.out.on hb2); replace HR := Aside0.mk (HR.out.on hb2); replace HU := Aside0.mk (HU.out.on hb2); replace HV := Aside0.mk (HV.out.on hb2); replace HX := Aside0.mk (HX.out.on hb2); replace HY := Aside0.mk (HY.out.on hb2); replace HZ := Aside0.mk (HZ.out.on hb2); replace HB := Aside0.mk (bl_on HB.out hb2 HB.out.size); replace HS := Aside0.mk (Nat.le_trans HS.out hb2.size); clear hb2) | ((with_reducible refine gate_st (y := .tmp 64) rfl ?_); (try simp only [aS]); refine st_num (HT.out) rfl _ _ rfl rfl rfl ?_; intro u3 hA3 hT3; replace HA := Aside0.mk (HA.out.but hT3 (by first | omega | (have := HXgU.out; have := HXgV.out; have := HXgX.out; have := HXgY.out; have := HXgZ.out; have := HXgT.out; omega))); replace HM := Aside0.mk (HM.out.but hT3 (by first | omega | (have := HXgU.out; have := HXgV.out; have := HXgX.out; have := HXgY.out; have := HXgZ.out; have := HXgT.out; omega))); replace HR := Aside0.mk (HR.out.but hT3 (by first | omega | (have := HXgU.out; have := HXgV.out; have := HXgX.out; have := HXgY.out; have := HXgZ.out; have := HXgT.out; omega))); replace HU := Aside0.mk (HU.out.but hT3 (by first | omega | (have := HXgU.out; have := HXgV.out; have := HXgX.out; have := HXgY.out; have := HXgZ.out; have := HXgT.out; omega))); replace HV := Aside0.mk (HV.out.but hT3 (by first | omega | (have := HXgU.out; have := HXgV.out; have := HXgX.out; have := HXgY.out; have := HXgZ.out; have := HXgT.out; omega))); replace HX := Aside0.mk (HX.out.but hT3 (by first | omega | (have := HXgU.out; have := HXgV.out; have := HXgX.out; have := HXgY.out; have := HXgZ.out; have := HXgT.out; omega))); replace HY := Aside0.mk (HY.out.but hT3 (by first | omega | (have := HXgU.out; have := HXgV.out; have := HXgX.out; have := HXgY.out; have := HXgZ.out; have := HXgT.out; omega))); replace HZ := Aside0.mk (HZ.out.but hT3 (by first | omega | (have := HXgU.out; have := HXgV.out; have := HXgX.out; have := HXgY.out; have := HXgZ.out; have := HXgT.out; omega))); replace HT := Aside0.mk hA3; replace HB := Aside0.mk (bl_but HB.out hT3 HB.out.size (by have := HXgU.out; have := HXgV.out; have := HXgX.out; have := HXgY.out; have := HXgZ.out; have := HXgT.out; omega)); replace HS := Aside0.mk (Nat.le_trans HS.out hT3.size); clear hA3 hT3) | ((with_reducible refine gate_dst (N := 65) rfl ?_); refine ld_num (HV.out.range) rfl _ rfl rfl ?_) | ((with_reducible refine gate_st (y := .tmp 65) rfl ?_); (try simp only [aS]); refine st_num (HU.out) rfl _ _ rfl rfl rfl ?_; intro u4 hA4 hT4; replace HA := Aside0.mk (HA.out.but hT4 (by first | omega | (have := HXgU.out; have := HXgV.out; have := HXgX.out; have := HXgY.out; have := HXgZ.out; have := HXgT.out; omega))); replace HM := Aside0.mk (HM.out.but hT4 (by first | omega | (have := HXgU.out; have := HXgV.out; have := HXgX.out; have := HXgY.out; have := HXgZ.out; have := HXgT.out; omega))); replace HR := Aside0.mk (HR.out.but hT4 (by first | omega | (have := HXgU.out; have := HXgV.out; have := HXgX.out; have := HXgY.out; have := HXgZ.out; have := HXgT.out; omega))); replace HV := Aside0.mk (HV.out.but hT4 (by first | omega | (have := HXgU.out; have := HXgV.out; have := HXgX.out; have := HXgY.out; have := HXgZ.out; have := HXgT.out; omega))); replace HX := Aside0.mk (HX.out.but hT4 (by first | omega | (have := HXgU.out; have := HXgV.out; have := HXgX.out; have := HXgY.out; have := HXgZ.out; have := HXgT.out; omega))); replace HY := Aside0.mk (HY.out.but hT4 (by first | omega | (have := HXgU.out; have := HXgV.out; have := HXgX.out; have := HXgY.out; have := HXgZ.out; have := HXgT.out; omega))); replace HZ := Aside0.mk (HZ.out.but hT4 (by first | omega | (have := HXgU.out; have := HXgV.out; have := HXgX.out; have := HXgY.out; have := HXgZ.out; have := HXgT.out; omega))); replace HT := Aside0.mk (HT.out.but hT4 (by first | omega | (have := HXgU.out; have := HXgV.out; have := HXgX.out; have := HXgY.out; have := HXgZ.out; have := HXgT.out; omega))); replace HU := Aside0.mk hA4; replace HB := Aside0.mk (bl_but HB.out hT4 HB.out.size (by have := HXgU.out; have := HXgV.out; have := HXgX.out; have := HXgY.out; have := HXgZ.out; have := HXgT.out; omega)); replace HS := Aside0.mk (Nat.le_trans HS.out hT4.size); clear hA4 hT4) | ((with_reducible refine gate_dst (N := 66) rfl ?_); refine ld_num (HT.out.range) rfl _ rfl rfl ?_) | ((with_reducible refine gate_st (y := .tmp 66) rfl ?_); (try simp only [aS]); refine st_num (HV.out) rfl _ _ rfl rfl rfl ?_; intro u5 hA5 hT5; replace HA := Aside0.mk (HA.out.but hT5 (by first | omega | (have := HXgU.out; have := HXgV.out; have := HXgX.out; have := HXgY.out; have := HXgZ.out; have := HXgT.out; omega))); replace HM := Aside0.mk (HM.out.but hT5 (by first | omega | (have := HXgU.out; have := HXgV.out; have := HXgX.out; have := HXgY.out; have := HXgZ.out; have := HXgT.out; omega))); replace HR := Aside0.mk (HR.out.but hT5 (by first | omega | (have := HXgU.out; have := HXgV.out; have := HXgX.out; have := HXgY.out; have := HXgZ.out; have := HXgT.out; omega))); replace HU := Aside0.mk (HU.out.but hT5 (by first | omega | (have := HXgU.out; have := HXgV.out; have := HXgX.out; have := HXgY.out; have := HXgZ.out; have := HXgT.out; omega))); replace HX := Aside0.mk (HX.out.but hT5 (by first | omega | (have := HXgU.out; have := HXgV.out; have := HXgX.out; have := HXgY.out; have := HXgZ.out; have := HXgT.out; omega))); replace HY := Aside0.mk (HY.out.but hT5 (by first | omega | (have := HXgU.out; have := HXgV.out; have := HXgX.out; have := HXgY.out; have := HXgZ.out; have := HXgT.out; omega))); replace HZ := Aside0.mk (HZ.out.but hT5 (by first | omega | (have := HXgU.out; have := HXgV.out; have := HXgX.out; have := HXgY.out; have := HXgZ.out; have := HXgT.out; omega))); replace HT := Aside0.mk (HT.out.but hT5 (by first | omega | (have := HXgU.out; have := HXgV.out; have := HXgX.out; have := HXgY.out; have := HXgZ.out; have := HXgT.out; omega))); replace HV := Aside0.mk hA5; replace HB := Aside0.mk (bl_but HB.out hT5 HB.out.size (by have := HXgU.out; have := HXgV.out; have := HXgX.out; have := HXgY.out; have := HXgZ.out; have := HXgT.out; omega)); replace HS := Aside0.mk (Nat.le_trans HS.out hT5.size); clear hA5 hT5) | ((with_reducible refine gate_dst (N := 67) rfl ?_); refine ld_num (HX.out.range) rfl _ rfl rfl ?_) | ((with_reducible refine gate_st (y := .tmp 67) rfl ?_); (try simp only [aS]); refine st_num (HT.out) rfl _ _ rfl rfl rfl ?_; intro u6 hA6 hT6; replace HA := Aside0.mk (HA.out.but hT6 (by first | omega | (have := HXgU.out; have := HXgV.out; have := HXgX.out; have := HXgY.out; have := HXgZ.out; have := HXgT.out; omega))); replace HM := Aside0.mk (HM.out.but hT6 (by first | omega | (have := HXgU.out; have := HXgV.out; have := HXgX.out; have := HXgY.out; have := HXgZ.out; have := HXgT.out; omega))); replace HR := Aside0.mk (HR.out.but hT6 (by first | omega | (have := HXgU.out; have := HXgV.out; have := HXgX.out; have := HXgY.out; have := HXgZ.out; have := HXgT.out; omega))); replace HU := Aside0.mk (HU.out.but hT6 (by first | omega | (have := HXgU.out; have := HXgV.out; have := HXgX.out; have := HXgY.out; have := HXgZ.out; have := HXgT.out; omega))); replace HV := Aside0.mk (HV.out.but hT6 (by first | omega | (have := HXgU.out; have := HXgV.out; have := HXgX.out; have := HXgY.out; have := HXgZ.out; have := HXgT.out; omega))); replace HX := Aside0.mk (HX.out.but hT6 (by first | omega | (have := HXgU.out; have := HXgV.out; have := HXgX.out; have := HXgY.out; have := HXgZ.out; have := HXgT.out; omega))); replace HY := Aside0.mk (HY.out.but hT6 (by first | omega | (have := HXgU.out; have := HXgV.out; have := HXgX.out; have := HXgY.out; have := HXgZ.out; have := HXgT.out; omega))); replace HZ := Aside0.mk (HZ.out.but hT6 (by first | omega | (have := HXgU.out; have := HXgV.out; have := HXgX.out; have := HXgY.out; have := HXgZ.out; have := HXgT.out; omega))); replace HT := Aside0.mk hA6; replace HB := Aside0.mk (bl_but HB.out hT6 HB.out.size (by have := HXgU.out; have := HXgV.out; have := HXgX.out; have := HXgY.out; have := HXgZ.out; have := HXgT.out; omega)); replace HS := Aside0.mk (Nat.le_trans HS.out hT6.size); clear hA6 hT6) | ((with_reducible refine gate_dst (N := 68) rfl ?_); refine ld_num (HY.out.range) rfl _ rfl rfl ?_) | ((with_reducible refine gate_st (y := .tmp 68) rfl ?_); (try simp only [aS]); refine st_num (HX.out) rfl _ _ rfl rfl rfl ?_; intro u7 hA7 hT7; replace HA := Aside0.mk (HA.out.but hT7 (by first | omega | (have := HXgU.out; have := HXgV.out; have := HXgX.out; have := HXgY.out; have := HXgZ.out; have := HXgT.out; omega))); replace HM := Aside0.mk (HM.out.but hT7 (by first | omega | (have := HXgU.out; have := HXgV.out; have := HXgX.out; have := HXgY.out; have := HXgZ.out; have := HXgT.out; omega))); replace HR := Aside0.mk (HR.out.but hT7 (by first | omega | (have := HXgU.out; have := HXgV.out; have := HXgX.out; have := HXgY.out; have := HXgZ.out; have := HXgT.out; omega))); replace HU := Aside0.mk (HU.out.but hT7 (by first | omega | (have := HXgU.out; have := HXgV.out; have := HXgX.out; have := HXgY.out; have := HXgZ.out; have := HXgT.out; omega))); replace HV := Aside0.mk (HV.out.but hT7 (by first | omega | (have := HXgU.out; have := HXgV.out; have := HXgX.out; have := HXgY.out; have := HXgZ.out; have := HXgT.out; omega))); replace HY := Aside0.mk (HY.out.but hT7 (by first | omega | (have := HXgU.out; have := HXgV.out; have := HXgX.out; have := HXgY.out; have := HXgZ.out; have := HXgT.out; omega))); replace HZ := Aside0.mk (HZ.out.but hT7 (by first | omega | (have := HXgU.out; have := HXgV.out; have := HXgX.out; have := HXgY.out; have := HXgZ.out; have := HXgT.out; omega))); replace HT := Aside0.mk (HT.out.but hT7 (by first | omega | (have := HXgU.out; have := HXgV.out; have := HXgX.out; have := HXgY.out; have := HXgZ.out; have := HXgT.out; omega))); replace HX := Aside0.mk hA7; replace HB := Aside0.mk (bl_but HB.out hT7 HB.out.size (by have := HXgU.out; have := HXgV.out; have := HXgX.out; have := HXgY.out; have := HXgZ.out; have := HXgT.out; omega)); replace HS := Aside0.mk (Nat.le_trans HS.out hT7.size); clear hA7 hT7) | ((with_reducible refine gate_dst (N := 69) rfl ?_); refine ld_num (HT.out.range) rfl _ rfl rfl ?_) | ((with_reducible refine gate_st (y := .tmp 69) rfl ?_); (try simp only [aS]); refine st_num (HY.out) rfl _ _ rfl rfl rfl ?_; intro u8 hA8 hT8; replace HA := Aside0.mk (HA.out.but hT8 (by first | omega | (have := HXgU.out; have := HXgV.out; have := HXgX.out; have := HXgY.out; have := HXgZ.out; have := HXgT.out; omega))); replace HM := Aside0.mk (HM.out.but hT8 (by first | omega | (have := HXgU.out; have := HXgV.out; have := HXgX.out; have := HXgY.out; have := HXgZ.out; have := HXgT.out; omega))); replace HR := Aside0.mk (HR.out.but hT8 (by first | omega | (have := HXgU.out; have := HXgV.out; have := HXgX.out; have := HXgY.out; have := HXgZ.out; have := HXgT.out; omega))); replace HU := Aside0.mk (HU.out.but hT8 (by first | omega | (have := HXgU.out; have := HXgV.out; have := HXgX.out; have := HXgY.out; have := HXgZ.out; have := HXgT.out; omega))); replace HV := Aside0.mk (HV.out.but hT8 (by first | omega | (have := HXgU.out; have := HXgV.out; have := HXgX.out; have := HXgY.out; have := HXgZ.out; have := HXgT.out; omega))); replace HX := Aside0.mk (HX.out.but hT8 (by first | omega | (have := HXgU.out; have := HXgV.out; have := HXgX.out; have := HXgY.out; have := HXgZ.out; have := HXgT.out; omega))); replace HZ := Aside0.mk (HZ.out.but hT8 (by first | omega | (have := HXgU.out; have := HXgV.out; have := HXgX.out; have := HXgY.out; have := HXgZ.out; have := HXgT.out; omega))); replace HT := Aside0.mk (HT.out.but hT8 (by first | omega | (have := HXgU.out; have := HXgV.out; have := HXgX.out; have := HXgY.out; have := HXgZ.out; have := HXgT.out; omega))); replace HY := Aside0.mk hA8; replace HB := Aside0.mk (bl_but HB.out hT8 HB.out.size (by have := HXgU.out; have := HXgV.out; have := HXgX.out; have := HXgY.out; have := HXgZ.out; have := HXgT.out; omega)); replace HS := Aside0.mk (Nat.le_trans HS.out hT8.size); clear hA8 hT8))
     clear f1 d2 q0 t1 HL HT HXgT
     go_upto_region 8 with (first | ((with_reducible refine gate_dst (N := 70) rfl ?_); refine ld_num (HU.out.range) rfl _ rfl rfl ?_) | ((with_reducible refine gate_dst (N := 71) rfl ?_); refine ld_num (HV.out.range) rfl _ rfl rfl ?_) | ((with_reducible refine gate_callee (f := 64) rfl ?_); refine goesL_ (some 72) rfl rfl Try.func64 (by kernel_rfl) rfl #[numV vn, numV un] rfl (by (try simp only [List.map_toArray, List.map_cons, List.map_nil]); first | done | rfl) ?_; (with_reducible refine (HMI.out _).mono ?_); rintro e v1 ⟨rfl, hb1⟩; replace HA := Aside0.mk (HA.out.on hb1); replace HM := Aside0.mk (HM.out.on hb1); replace HR := Aside0.mk (HR.out.on hb1); replace HU := Aside0.mk (HU.out.on hb1); replace HV := Aside0.mk (HV.out.on hb1); replace HX := Aside0.mk (HX.out.on hb1); replace HY := Aside0.mk (HY.out.on hb1); replace HZ := Aside0.mk (HZ.out.on hb1); replace HB := Aside0.mk (bl_on HB.out hb1 HB.out.size); replace HS := Aside0.mk (Nat.le_trans HS.out hb1.size); clear hb1; refine ⟨_, rfl, ?_⟩) | ((with_reducible refine gate_st (y := .tmp 72) rfl ?_); (try simp only [aS]); refine st_num (HU.out) rfl _ _ rfl rfl rfl ?_; intro v2 hA2 hT2; replace HA := Aside0.mk (HA.out.but hT2 (by first | omega | (have := HXgU.out; have := HXgV.out; have := HXgX.out; have := HXgY.out; have := HXgZ.out; omega))); replace HM := Aside0.mk (HM.out.but hT2 (by first | omega | (have := HXgU.out; have := HXgV.out; have := HXgX.out; have := HXgY.out; have := HXgZ.out; omega))); replace HR := Aside0.mk (HR.out.but hT2 (by first | omega | (have := HXgU.out; have := HXgV.out; have := HXgX.out; have := HXgY.out; have := HXgZ.out; omega))); replace HV := Aside0.mk (HV.out.but hT2 (by first | omega | (have := HXgU.out; have := HXgV.out; have := HXgX.out; have := HXgY.out; have := HXgZ.out; omega))); replace HX := Aside0.mk (HX.out.but hT2 (by first | omega | (have := HXgU.out; have := HXgV.out; have := HXgX.out; have := HXgY.out; have := HXgZ.out; omega))); replace HY := Aside0.mk (HY.out.but hT2 (by first | omega | (have := HXgU.out; have := HXgV.out; have := HXgX.out; have := HXgY.out; have := HXgZ.out; omega))); replace HZ := Aside0.mk (HZ.out.but hT2 (by first | omega | (have := HXgU.out; have := HXgV.out; have := HXgX.out; have := HXgY.out; have := HXgZ.out; omega))); replace HU := Aside0.mk hA2; replace HB := Aside0.mk (bl_but HB.out hT2 HB.out.size (by have := HXgU.out; have := HXgV.out; have := HXgX.out; have := HXgY.out; have := HXgZ.out; omega)); replace HS := Aside0.mk (Nat.le_trans HS.out hT2.size); clear hA2 hT2) | ((with_reducible refine gate_dst (N := 73) rfl ?_); refine ld_num (HX.out.range) rfl _ rfl rfl ?_) | ((with_reducible refine gate_dst (N := 74) rfl ?_); refine ld_num (HY.out.range) rfl _ rfl rfl ?_) | ((with_reducible refine gate_dst (N := 75) rfl ?_); refine ld_num (HM.out.range) rfl _ rfl rfl ?_) | ((with_reducible refine gate_callee (f := 65) rfl ?_); refine goesL_ (some 76) rfl rfl Try.func65 (by kernel_rfl) rfl #[numV yn, numV xn, numV m] rfl (by (try simp only [List.map_toArray, List.map_cons, List.map_nil]); first | done | rfl) ?_; (with_reducible refine (HSU.out _).mono ?_); rintro e v3 ⟨rfl, hb3⟩; replace HA := Aside0.mk (HA.out.on hb3); replace HM := Aside0.mk (HM.out.on hb3); replace HR := Aside0.mk (HR.out.on hb3); replace HU := Aside0.mk (HU.out.on hb3); replace HV := Aside0.mk (HV.out.on hb3); replace HX := Aside0.mk (HX.out.on hb3); replace HY := Aside0.mk (HY.out.on hb3); replace HZ := Aside0.mk (HZ.out.on hb3); replace HB := Aside0.mk (bl_on HB.out hb3 HB.out.size); replace HS := Aside0.mk (Nat.le_trans HS.out hb3.size); clear hb3; refine ⟨_, rfl, ?_⟩) | ((with_reducible refine gate_st (y := .tmp 76) rfl ?_); (try simp only [aS]); refine st_num (HX.out) rfl _ _ rfl rfl rfl ?_; intro v4 hA4 hT4; replace HA := Aside0.mk (HA.out.but hT4 (by first | omega | (have := HXgU.out; have := HXgV.out; have := HXgX.out; have := HXgY.out; have := HXgZ.out; omega))); replace HM := Aside0.mk (HM.out.but hT4 (by first | omega | (have := HXgU.out; have := HXgV.out; have := HXgX.out; have := HXgY.out; have := HXgZ.out; omega))); replace HR := Aside0.mk (HR.out.but hT4 (by first | omega | (have := HXgU.out; have := HXgV.out; have := HXgX.out; have := HXgY.out; have := HXgZ.out; omega))); replace HU := Aside0.mk (HU.out.but hT4 (by first | omega | (have := HXgU.out; have := HXgV.out; have := HXgX.out; have := HXgY.out; have := HXgZ.out; omega))); replace HV := Aside0.mk (HV.out.but hT4 (by first | omega | (have := HXgU.out; have := HXgV.out; have := HXgX.out; have := HXgY.out; have := HXgZ.out; omega))); replace HY := Aside0.mk (HY.out.but hT4 (by first | omega | (have := HXgU.out; have := HXgV.out; have := HXgX.out; have := HXgY.out; have := HXgZ.out; omega))); replace HZ := Aside0.mk (HZ.out.but hT4 (by first | omega | (have := HXgU.out; have := HXgV.out; have := HXgX.out; have := HXgY.out; have := HXgZ.out; omega))); replace HX := Aside0.mk hA4; replace HB := Aside0.mk (bl_but HB.out hT4 HB.out.size (by have := HXgU.out; have := HXgV.out; have := HXgX.out; have := HXgY.out; have := HXgZ.out; omega)); replace HS := Aside0.mk (Nat.le_trans HS.out hT4.size); clear hA4 hT4))
     have qk := HQK.out
     go_wp2
     refine ⟨⟨k + 1, n, un, c, xn, ?_, HST, HA, HM, HR, HU, HV, HX, HY, HZ, HB, HS⟩, ?_⟩
     ·(try rw [qk]); rw [Int.natCast_add]; rfl
     ·(try rw [qk]); exact meas1100 HK.out
    ·have HI2 := HI
     rw [decide_eq_false hlt] at HL
     have HO2 := Aside0.mk (And.intro ho (Nat.le_of_not_lt hlt))
     clear hk h0 d1 hb0 hev ho hlt
     have hst := HI2.out.sub HO2.out.1 HO2.out.2
     obtain ⟨n, hn⟩ : ∃ n, n = un - vn := ⟨_, rfl⟩
     obtain ⟨c, hc⟩ : ∃ c, c = (xn + m - yn) % m := ⟨_, rfl⟩
     rw [← hn, ← hc] at hst
     have HMI := Aside0.mk (fun u => minus_calls (IsNum.mk HI2.out.lu) (IsNum.mk HI2.out.lv) u)
     have hsn : (un + N256 - vn) % N256 = n := by rw [hn, show un + N256 - vn = (un - vn) + N256 by have := HO2.out.2; omega, Nat.add_mod_right, Nat.mod_eq_of_lt (Nat.lt_of_le_of_lt (Nat.sub_le _ _) HI2.out.lu)]
     rw [hsn] at HMI
     have HSU := Aside0.mk (fun u => rsub_calls xn yn m u HCM.out.1 HI2.out.lx HI2.out.ly)
     rw [← hc] at HSU
     have HST := Aside0.mk hst
     clear hn hc hsn hst qk
     go_upto_region 24 with (first | ((with_reducible refine gate_dst (N := 22) rfl ?_); refine ld_numG (HU.out.range) (by rfl) _ rfl rfl ?_) | ((with_reducible refine gate_dst (N := 23) rfl ?_); refine ld_numG (HZ.out.range) (by rfl) _ rfl rfl ?_) | ((with_reducible refine gate_dst (N := 61) rfl ?_); refine ld_num (HU.out.range) rfl _ rfl rfl ?_) | ((with_reducible refine gate_dst (N := 62) rfl ?_); refine ld_num (HV.out.range) rfl _ rfl rfl ?_) | ((with_reducible refine gate_callee (f := 63) rfl ?_); refine goesL_ (some 63) rfl rfl Try.func63 (by kernel_rfl) rfl #[numV un, numV vn] rfl (by (try simp only [List.map_toArray, List.map_cons, List.map_nil]); first | done | rfl) ?_; (with_reducible refine (HL.out _).mono ?_); rintro e u1 ⟨rfl, hb1⟩; clear ca0; replace HA := Aside0.mk (HA.out.on hb1); replace HM := Aside0.mk (HM.out.on hb1); replace HR := Aside0.mk (HR.out.on hb1); replace HU := Aside0.mk (HU.out.on hb1); replace HV := Aside0.mk (HV.out.on hb1); replace HX := Aside0.mk (HX.out.on hb1); replace HY := Aside0.mk (HY.out.on hb1); replace HZ := Aside0.mk (HZ.out.on hb1); replace HB := Aside0.mk (bl_on HB.out hb1 HB.out.size); replace HS := Aside0.mk (Nat.le_trans HS.out hb1.size); clear hb1; refine ⟨_, rfl, ?_⟩))
     clear f1 d2 q0 t1 HL 
     go_upto_region 8 with (first | ((with_reducible refine gate_dst (N := 70) rfl ?_); refine ld_num (HU.out.range) rfl _ rfl rfl ?_) | ((with_reducible refine gate_dst (N := 71) rfl ?_); refine ld_num (HV.out.range) rfl _ rfl rfl ?_) | ((with_reducible refine gate_callee (f := 64) rfl ?_); refine goesL_ (some 72) rfl rfl Try.func64 (by kernel_rfl) rfl #[numV un, numV vn] rfl (by (try simp only [List.map_toArray, List.map_cons, List.map_nil]); first | done | rfl) ?_; (with_reducible refine (HMI.out _).mono ?_); rintro e v1 ⟨rfl, hb1⟩; replace HA := Aside0.mk (HA.out.on hb1); replace HM := Aside0.mk (HM.out.on hb1); replace HR := Aside0.mk (HR.out.on hb1); replace HU := Aside0.mk (HU.out.on hb1); replace HV := Aside0.mk (HV.out.on hb1); replace HX := Aside0.mk (HX.out.on hb1); replace HY := Aside0.mk (HY.out.on hb1); replace HZ := Aside0.mk (HZ.out.on hb1); replace HB := Aside0.mk (bl_on HB.out hb1 HB.out.size); replace HS := Aside0.mk (Nat.le_trans HS.out hb1.size); clear hb1; refine ⟨_, rfl, ?_⟩) | ((with_reducible refine gate_st (y := .tmp 72) rfl ?_); (try simp only [aS]); refine st_num (HU.out) rfl _ _ rfl rfl rfl ?_; intro v2 hA2 hT2; replace HA := Aside0.mk (HA.out.but hT2 (by first | omega | (have := HXgU.out; have := HXgV.out; have := HXgX.out; have := HXgY.out; have := HXgZ.out; omega))); replace HM := Aside0.mk (HM.out.but hT2 (by first | omega | (have := HXgU.out; have := HXgV.out; have := HXgX.out; have := HXgY.out; have := HXgZ.out; omega))); replace HR := Aside0.mk (HR.out.but hT2 (by first | omega | (have := HXgU.out; have := HXgV.out; have := HXgX.out; have := HXgY.out; have := HXgZ.out; omega))); replace HV := Aside0.mk (HV.out.but hT2 (by first | omega | (have := HXgU.out; have := HXgV.out; have := HXgX.out; have := HXgY.out; have := HXgZ.out; omega))); replace HX := Aside0.mk (HX.out.but hT2 (by first | omega | (have := HXgU.out; have := HXgV.out; have := HXgX.out; have := HXgY.out; have := HXgZ.out; omega))); replace HY := Aside0.mk (HY.out.but hT2 (by first | omega | (have := HXgU.out; have := HXgV.out; have := HXgX.out; have := HXgY.out; have := HXgZ.out; omega))); replace HZ := Aside0.mk (HZ.out.but hT2 (by first | omega | (have := HXgU.out; have := HXgV.out; have := HXgX.out; have := HXgY.out; have := HXgZ.out; omega))); replace HU := Aside0.mk hA2; replace HB := Aside0.mk (bl_but HB.out hT2 HB.out.size (by have := HXgU.out; have := HXgV.out; have := HXgX.out; have := HXgY.out; have := HXgZ.out; omega)); replace HS := Aside0.mk (Nat.le_trans HS.out hT2.size); clear hA2 hT2) | ((with_reducible refine gate_dst (N := 73) rfl ?_); refine ld_num (HX.out.range) rfl _ rfl rfl ?_) | ((with_reducible refine gate_dst (N := 74) rfl ?_); refine ld_num (HY.out.range) rfl _ rfl rfl ?_) | ((with_reducible refine gate_dst (N := 75) rfl ?_); refine ld_num (HM.out.range) rfl _ rfl rfl ?_) | ((with_reducible refine gate_callee (f := 65) rfl ?_); refine goesL_ (some 76) rfl rfl Try.func65 (by kernel_rfl) rfl #[numV xn, numV yn, numV m] rfl (by (try simp only [List.map_toArray, List.map_cons, List.map_nil]); first | done | rfl) ?_; (with_reducible refine (HSU.out _).mono ?_); rintro e v3 ⟨rfl, hb3⟩; replace HA := Aside0.mk (HA.out.on hb3); replace HM := Aside0.mk (HM.out.on hb3); replace HR := Aside0.mk (HR.out.on hb3); replace HU := Aside0.mk (HU.out.on hb3); replace HV := Aside0.mk (HV.out.on hb3); replace HX := Aside0.mk (HX.out.on hb3); replace HY := Aside0.mk (HY.out.on hb3); replace HZ := Aside0.mk (HZ.out.on hb3); replace HB := Aside0.mk (bl_on HB.out hb3 HB.out.size); replace HS := Aside0.mk (Nat.le_trans HS.out hb3.size); clear hb3; refine ⟨_, rfl, ?_⟩) | ((with_reducible refine gate_st (y := .tmp 76) rfl ?_); (try simp only [aS]); refine st_num (HX.out) rfl _ _ rfl rfl rfl ?_; intro v4 hA4 hT4; replace HA := Aside0.mk (HA.out.but hT4 (by first | omega | (have := HXgU.out; have := HXgV.out; have := HXgX.out; have := HXgY.out; have := HXgZ.out; omega))); replace HM := Aside0.mk (HM.out.but hT4 (by first | omega | (have := HXgU.out; have := HXgV.out; have := HXgX.out; have := HXgY.out; have := HXgZ.out; omega))); replace HR := Aside0.mk (HR.out.but hT4 (by first | omega | (have := HXgU.out; have := HXgV.out; have := HXgX.out; have := HXgY.out; have := HXgZ.out; omega))); replace HU := Aside0.mk (HU.out.but hT4 (by first | omega | (have := HXgU.out; have := HXgV.out; have := HXgX.out; have := HXgY.out; have := HXgZ.out; omega))); replace HV := Aside0.mk (HV.out.but hT4 (by first | omega | (have := HXgU.out; have := HXgV.out; have := HXgX.out; have := HXgY.out; have := HXgZ.out; omega))); replace HY := Aside0.mk (HY.out.but hT4 (by first | omega | (have := HXgU.out; have := HXgV.out; have := HXgX.out; have := HXgY.out; have := HXgZ.out; omega))); replace HZ := Aside0.mk (HZ.out.but hT4 (by first | omega | (have := HXgU.out; have := HXgV.out; have := HXgX.out; have := HXgY.out; have := HXgZ.out; omega))); replace HX := Aside0.mk hA4; replace HB := Aside0.mk (bl_but HB.out hT4 HB.out.size (by have := HXgU.out; have := HXgV.out; have := HXgX.out; have := HXgY.out; have := HXgZ.out; omega)); replace HS := Aside0.mk (Nat.le_trans HS.out hT4.size); clear hA4 hT4))
     have qk := HQK.out
     go_wp2
     refine ⟨⟨k + 1, n, vn, c, yn, ?_, HST, HA, HM, HR, HU, HV, HX, HY, HZ, HB, HS⟩, ?_⟩
     ·(try rw [qk]); rw [Int.natCast_add]; rfl
     ·(try rw [qk]); exact meas1100 HK.out
end Go.Proofs.Ytkfjhndofbmhoaa
