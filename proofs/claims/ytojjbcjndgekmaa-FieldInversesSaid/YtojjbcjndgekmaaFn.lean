/- The document's In, Pow modulo m. -/
import Derived.Test.YtojjbcjndgekmaaFl
import Derived.Test.YtojjbcjndgekmaaFo
namespace Go.Proofs.Ytojjbcjndgekmaa
open Go.RowKit Go.Proofs.Ytojjbcjndgekmaa.Arr Go.Proofs.YtojjbcjndgekmaaW.PrintWords Go.Proofs.YtojjbcjndgekmaaW.PrintLast Go.Proofs.YtojjbcjndgekmaaW.PrintMore
set_option linter.unusedVariables false
set_option linter.unusedSimpArgs false
set_option maxRecDepth 100000 in
set_option maxHeartbeats 8000000 in
/-- clapperref02.In -/
theorem rin_calls (a m : Nat) (w : World) (hm : m < N256) (h1 : 1 < m) (ha : a < N256) :
    Calls Try.prog 15 #[numV a, numV m] w fun e w' => e = .returned (numV (a % m)) ∧ Below w.heap.size w w' := by
  by_cases hlt : a < m
  · rw [Nat.mod_eq_of_lt hlt]
    exact rin_lt a m w hm hlt
  · have HL := Aside0.mk (fun u => less_calls (IsNum.mk ha) (IsNum.mk hm) u)
    have HC := Aside0.mk (fun u => rcut_calls a m u hm h1 (n256_512 ha))
    have HW := Aside0.mk (wide_num a ha)
    rw [decide_eq_false hlt] at HL
    generalize a % m = r at *
    clear hm ha h1 hlt
    rw [numV_def a, numV_def m]
    go_enter Try.func15, Try.ntmps15
    go_upto_region 1 with (fail)
    refine wp_at (w2 := (World.alloc (World.alloc (World.alloc w (.cells (nw a).toArray 24)) (.cells (nw m).toArray 24)) (.cells (nw 0).toArray 24))) rfl ?_
    obtain ⟨x_0, e_0, h_0, b_0, s_0⟩ := new_num w a
    obtain ⟨x_1, e_1, h_1, b_1, s_1⟩ := new_num x_0 m
    obtain ⟨x_2, e_2, h_2, b_2, s_2⟩ := new_num x_1 0
    rw [e_0, e_1, e_2]
    rw [s_0] at h_1 s_1
    rw [s_1] at h_2 s_2
    have HB : Aside0 (Below w.heap.size w x_2) := Aside0.mk (bl_both (bl_both b_0 b_1) b_2)
    have HA : Aside0 (NAt x_2 (w.heap.size) a) := Aside0.mk ((h_0.on b_1).on b_2)
    have HM : Aside0 (NAt x_2 (w.heap.size + 1) m) := Aside0.mk (h_1.on b_2)
    have HO : Aside0 (NAt x_2 (w.heap.size + 1 + 1) 0) := Aside0.mk h_2
    have HS : Aside0 (w.heap.size + 1 + 1 + 1 ≤ x_2.heap.size) := Aside0.mk (Nat.le_of_eq s_2.symm)
    clear e_0 h_0 b_0 s_0 e_1 h_1 b_1 s_1 e_2 h_2 b_2 s_2
    obtain ⟨w1, hw_⟩ : ∃ x, x = x_2 := ⟨_, rfl⟩
    subst hw_
    clear x_0 x_1
    go_upto_region 3 with (first | ((with_reducible refine gate_dst (N := 5) rfl ?_); refine ld_num (HA.out.range) rfl _ rfl rfl ?_) | ((with_reducible refine gate_dst (N := 6) rfl ?_); refine ld_num (HM.out.range) rfl _ rfl rfl ?_) | ((with_reducible refine gate_callee (f := 34) rfl ?_); refine goesL_ (some 7) rfl rfl Try.func34 (by kernel_rfl) rfl #[numV a, numV m] rfl (by (try simp only [List.map_toArray, List.map_cons, List.map_nil]); first | done | rfl) ?_; (with_reducible refine (HL.out _).mono ?_); rintro e u1 ⟨rfl, hb1⟩; replace HA := Aside0.mk (HA.out.on hb1); replace HM := Aside0.mk (HM.out.on hb1); replace HO := Aside0.mk (HO.out.on hb1); replace HB := Aside0.mk (bl_on HB.out hb1 HB.out.size); replace HS := Aside0.mk (Nat.le_trans HS.out hb1.size); clear hb1; refine ⟨_, rfl, ?_⟩))
    obtain ⟨ca0, ca1, ca2, ca3⟩ := HA.out.cell
    go_wp2_with (first | ((with_reducible refine gate_dst (N := 18) rfl ?_); refine ld_num (HM.out.range) rfl _ rfl rfl ?_) | ((with_reducible refine gate_callee (f := 18) rfl ?_); refine goesL_ (some 19) rfl rfl Try.func18 (by kernel_rfl) rfl #[wideV a, numV m] rfl (by (try rw [← HW.out]); (try simp only [List.map_toArray, List.map_cons, List.map_nil]); first | done | rfl) ?_; (with_reducible refine (HC.out _).mono ?_); rintro e u2 ⟨rfl, hb2⟩; clear ca0 ca1 ca2 ca3; replace HA := Aside0.mk (HA.out.on hb2); replace HM := Aside0.mk (HM.out.on hb2); replace HO := Aside0.mk (HO.out.on hb2); replace HB := Aside0.mk (bl_on HB.out hb2 HB.out.size); replace HS := Aside0.mk (Nat.le_trans HS.out hb2.size); clear hb2; refine ⟨_, rfl, ?_⟩) | ((with_reducible refine gate_st (y := .tmp 19) rfl ?_); refine st_num (HO.out) rfl _ _ rfl rfl rfl ?_; intro u3 hA3 hT3; replace HA := Aside0.mk (HA.out.but hT3 (by omega)); replace HM := Aside0.mk (HM.out.but hT3 (by omega)); replace HO := Aside0.mk hA3; replace HB := Aside0.mk (bl_but HB.out hT3 HB.out.size (by omega)); replace HS := Aside0.mk (Nat.le_trans HS.out hT3.size); clear hA3 hT3))
    exact bodyPost_ret (v := numV r) (results_nat rfl rfl HO.out) rfl ⟨rfl, HB.out⟩
/-- one bit more of a power -/
theorem pow_step (a e m i : Nat) : let v := a ^ (e / 2 ^ (i + 1)) % m
    (e.testBit i = false → v * v % m = a ^ (e / 2 ^ i) % m) ∧ (e.testBit i = true → (v * v % m) * a % m = a ^ (e / 2 ^ i) % m) := by
  intro v
  have e1 : e / 2 ^ i = (e / 2 ^ (i + 1) + e / 2 ^ (i + 1)) + e / 2 ^ i % 2 := by rw [show 2 ^ (i + 1) = 2 ^ i * 2 from Nat.pow_succ 2 i, ← Nat.div_div_eq_div_mul]; omega
  have e2 : v * v % m = a ^ (e / 2 ^ (i + 1) + e / 2 ^ (i + 1)) % m := by
    show (a ^ (e / 2 ^ (i + 1)) % m) * (a ^ (e / 2 ^ (i + 1)) % m) % m = _
    rw [← Nat.mul_mod, Nat.pow_add a]
  rw [Nat.testBit_eq_decide_div_mod_eq]
  refine ⟨fun h => ?_, fun h => ?_⟩
  · rw [e2]
    have h0 : e / 2 ^ i % 2 = 0 := by have := of_decide_eq_false h; omega
    rw [h0, Nat.add_zero] at e1
    rw [← e1]
  · rw [e2, Nat.mod_mul_mod]
    have h0 : e / 2 ^ i % 2 = 1 := of_decide_eq_true h
    rw [h0] at e1
    rw [e1, Nat.pow_succ a]
theorem bitI_nat (e i : Nat) : bitI e (i : Int) = e.testBit i := by unfold bitI; simp
theorem pow_top (a e m : Nat) (he : e < N256) (h1 : 1 < m) : a ^ (e / 2 ^ 256) % m = 1 := by rw [Nat.div_eq_of_lt (by rw [← n256]; exact he), Nat.pow_zero, Nat.mod_eq_of_lt h1]
set_option maxRecDepth 100000 in
set_option maxHeartbeats 8000000 in
/-- clapperref02.Pow -/
theorem rpow_calls (a e m : Nat) (w : World) (hm : m < N256) (h1 : 1 < m) (ha : a < m) (he : e < N256) :
    Calls Try.prog 26 #[numV a, numV e, numV m] w fun e' w' => e' = .returned (numV (a ^ e % m)) ∧ Below w.heap.size w w' := by
  have HI := Aside0.mk (fun u => rin_lt 1 m u hm h1)
  have HT := Aside0.mk (pow_top a e m he h1)
  have HEnd : Aside0 (a ^ (e / 2 ^ 0) % m = a ^ e % m) := Aside0.mk (by rw [Nat.pow_zero, Nat.div_one])
  have HCM : Aside0 (1 < m ∧ m < N256 ∧ a < m) := Aside0.mk ⟨h1, hm, ha⟩
  have HBT := Aside0.mk (fun (i : Int) u => rbit_calls (IsNum.mk he) i u)
  generalize a ^ e % m = res at *
  rw [numV_def a, numV_def e, numV_def m]
  clear hm h1 ha he
  go_enter Try.func26, Try.ntmps26
  go_upto_region 1 with (fail)
  refine wp_at (w2 := (World.alloc (World.alloc (World.alloc (World.alloc w (.cells (nw a).toArray 24)) (.cells (nw e).toArray 24)) (.cells (nw m).toArray 24)) (.cells (nw 0).toArray 24))) rfl ?_
  obtain ⟨x_0, e_0, h_0, b_0, s_0⟩ := new_num w a
  obtain ⟨x_1, e_1, h_1, b_1, s_1⟩ := new_num x_0 e
  obtain ⟨x_2, e_2, h_2, b_2, s_2⟩ := new_num x_1 m
  obtain ⟨x_3, e_3, h_3, b_3, s_3⟩ := new_num x_2 0
  rw [e_0, e_1, e_2, e_3]
  rw [s_0] at h_1 s_1
  rw [s_1] at h_2 s_2
  rw [s_2] at h_3 s_3
  have HB : Aside0 (Below w.heap.size w x_3) := Aside0.mk (bl_both (bl_both (bl_both b_0 b_1) b_2) b_3)
  have HA : Aside0 (NAt x_3 (w.heap.size) a) := Aside0.mk (((h_0.on b_1).on b_2).on b_3)
  have HE : Aside0 (NAt x_3 (w.heap.size + 1) e) := Aside0.mk ((h_1.on b_2).on b_3)
  have HM : Aside0 (NAt x_3 (w.heap.size + 1 + 1) m) := Aside0.mk (h_2.on b_3)
  have HR : Aside0 (NAt x_3 (w.heap.size + 1 + 1 + 1) 0) := Aside0.mk h_3
  have HS : Aside0 (w.heap.size + 1 + 1 + 1 + 1 ≤ x_3.heap.size) := Aside0.mk (Nat.le_of_eq s_3.symm)
  clear e_0 h_0 b_0 s_0 e_1 h_1 b_1 s_1 e_2 h_2 b_2 s_2 e_3 h_3 b_3 s_3
  obtain ⟨w1, hw_⟩ : ∃ x, x = x_3 := ⟨_, rfl⟩
  subst hw_
  clear x_0 x_1 x_2
  go_upto_region 2 with (first | ((with_reducible refine gate_dst (N := 11) rfl ?_); refine ld_num (HM.out.range) rfl _ rfl rfl ?_) | ((with_reducible refine gate_callee (f := 15) rfl ?_); refine goesL_ (some 12) rfl rfl Try.func15 (by kernel_rfl) rfl #[numV 1, numV m] rfl (by (try simp only [List.map_toArray, List.map_cons, List.map_nil]); first | done | rfl) ?_; (with_reducible refine (HI.out _).mono ?_); rintro e1 u1 ⟨rfl, hb1⟩; replace HA := Aside0.mk (HA.out.on hb1); replace HE := Aside0.mk (HE.out.on hb1); replace HM := Aside0.mk (HM.out.on hb1); replace HR := Aside0.mk (HR.out.on hb1); replace HB := Aside0.mk (bl_on HB.out hb1 HB.out.size); replace HS := Aside0.mk (Nat.le_trans HS.out hb1.size); clear hb1; refine ⟨_, rfl, ?_⟩) | ((with_reducible refine gate_dst (N := 7) rfl ?_); refine al_num rfl _ rfl rfl ?_; intro g7 u2 eg7 HO hb2; have HXg7 : Aside0 (w.heap.size + 1 + 1 + 1 + 1 ≤ g7) := Aside0.mk (by rw [eg7]; exact HS.out); replace HO := Aside0.mk HO; clear eg7; replace HA := Aside0.mk (HA.out.on hb2); replace HE := Aside0.mk (HE.out.on hb2); replace HM := Aside0.mk (HM.out.on hb2); replace HR := Aside0.mk (HR.out.on hb2); replace HB := Aside0.mk (bl_on HB.out hb2 HB.out.size); replace HS := Aside0.mk (Nat.le_trans HS.out hb2.size); clear hb2) | ((with_reducible refine gate_st (y := .tmp 12) rfl ?_); refine st_num (HO.out) rfl _ _ rfl rfl rfl ?_; intro u3 hA3 hT3; replace HA := Aside0.mk (HA.out.but hT3 (by first | omega | (have := HXg7.out; omega))); replace HE := Aside0.mk (HE.out.but hT3 (by first | omega | (have := HXg7.out; omega))); replace HM := Aside0.mk (HM.out.but hT3 (by first | omega | (have := HXg7.out; omega))); replace HR := Aside0.mk (HR.out.but hT3 (by first | omega | (have := HXg7.out; omega))); replace HO := Aside0.mk hA3; replace HB := Aside0.mk (bl_but HB.out hT3 HB.out.size (by have := HXg7.out; omega)); replace HS := Aside0.mk (Nat.le_trans HS.out hT3.size); clear hA3 hT3))
  clear HI
  go_wp2
  replace HO : Aside0 (NAt u3 g7 (a ^ (e / 2 ^ 256) % m)) := Aside0.mk (by rw [HT.out]; exact HO.out)
  go_loopw [8] (fun v wr => ∃ j : Nat, j ≤ 256 ∧ v = .int .i64 ((j : Int) - 1) ∧ Aside0 (NAt wr (w.heap.size) (a)) ∧ Aside0 (NAt wr (w.heap.size + 1) (e)) ∧ Aside0 (NAt wr (w.heap.size + 1 + 1) (m)) ∧ Aside0 (NAt wr (w.heap.size + 1 + 1 + 1) (0)) ∧ Aside0 (NAt wr (g7) (a ^ (e / 2 ^ j) % m)) ∧ Aside0 (Below w.heap.size w wr) ∧ Aside0 (w.heap.size + 1 + 1 + 1 + 1 ≤ wr.heap.size))
    (fun v _ => (intOf v + 1).toNat)
  case atStart => exact ⟨256, Nat.le_refl _, rfl, HA, HE, HM, HR, HO, HB, HS⟩
  case round =>
    clear HA HE HM HR HO HB HS
    obtain ⟨j, hj, rfl, HA, HE, HM, HR, HO, HB, HS⟩ := hrel
    obtain ⟨u0, hu0⟩ : ∃ x, x = wr := ⟨_, rfl⟩
    subst hu0
    by_cases hj0 : j = 0
    · subst hj0
      rw [HEnd.out] at HO
      clear hj
      go_wp2_with (first | ((with_reducible refine gate_dst (N := 29) rfl ?_); refine ld_num (HO.out.range) rfl _ rfl rfl ?_) | ((with_reducible refine gate_st (y := .tmp 29) rfl ?_); refine st_num (HR.out) rfl _ _ rfl rfl rfl ?_; intro u4 hA4 hT4; replace HA := Aside0.mk (HA.out.but hT4 (by first | omega | (have := HXg7.out; omega))); replace HE := Aside0.mk (HE.out.but hT4 (by first | omega | (have := HXg7.out; omega))); replace HM := Aside0.mk (HM.out.but hT4 (by first | omega | (have := HXg7.out; omega))); replace HO := Aside0.mk (HO.out.but hT4 (by first | omega | (have := HXg7.out; omega))); replace HR := Aside0.mk hA4; replace HB := Aside0.mk (bl_but HB.out hT4 HB.out.size (by omega)); replace HS := Aside0.mk (Nat.le_trans HS.out hT4.size); clear hA4 hT4))
      exact bodyPost_ret (v := numV res) (results_nat rfl rfl HR.out) rfl ⟨rfl, HB.out⟩
    · obtain ⟨i, rfl⟩ : ∃ i, j = i + 1 := ⟨j - 1, by omega⟩
      have hi : i < 256 := hj
      rw [show (((i + 1 : Nat) : Int) - 1) = (i : Int) by omega]
      have hst := pow_step a e m i
      obtain ⟨v, hv⟩ : ∃ v, v = a ^ (e / 2 ^ (i + 1)) % m := ⟨_, rfl⟩
      simp only [← hv] at hst
      rw [← hv] at HO
      have hm0 : 0 < m := Nat.lt_trans (Nat.lt_succ_self 0) HCM.out.1
      have hvm : v < m := by rw [hv]; exact Nat.mod_lt _ hm0
      obtain ⟨v2, hv2⟩ : ∃ x, x = v * v % m := ⟨_, rfl⟩
      have hv2m : v2 < m := by rw [hv2]; exact Nat.mod_lt _ hm0
      have hM := HCM.out.2.1
      have HC1 := Aside0.mk (fun u => rmul_calls v v m u hM hvm (Nat.lt_trans hvm hM))
      have HC2 := Aside0.mk (fun u => rmul_calls v2 a m u hM hv2m (Nat.lt_trans HCM.out.2.2 hM))
      rw [← hv2] at HC1 hst
      have HBI := Aside0.mk (fun u => HBT.out (i : Int) u)
      rw [bitI_nat] at HBI
      have q1 := dec64 i (by omega)
      have HIL := Aside0.mk hi
      have t1 : (0 : Int) ≤ (i : Int) := Int.natCast_nonneg i
      obtain ⟨D, hD⟩ : ∃ D, D = e.testBit i := ⟨_, rfl⟩
      rw [← hD] at HBI hst
      clear hv hvm hv2 hv2m hM hi hj hj0 hm0 hD
      cases D with
      | false =>
        have HR2 := Aside0.mk (hst.1 rfl)
        clear hst
        go_upto_region 4 with (first | ((with_reducible refine gate_dst (N := 17) rfl ?_); refine ld_num (HO.out.range) rfl _ rfl rfl ?_) | ((with_reducible refine gate_dst (N := 18) rfl ?_); refine ld_num (HO.out.range) rfl _ rfl rfl ?_) | ((with_reducible refine gate_dst (N := 19) rfl ?_); refine ld_num (HM.out.range) rfl _ rfl rfl ?_) | ((with_reducible refine gate_callee (f := 24) rfl ?_); refine goesL_ (some 20) rfl rfl Try.func24 (by kernel_rfl) rfl #[numV v, numV v, numV m] rfl (by (try simp only [List.map_toArray, List.map_cons, List.map_nil]); first | done | rfl) ?_; (with_reducible refine (HC1.out _).mono ?_); rintro e1 v1 ⟨rfl, hb1⟩; replace HA := Aside0.mk (HA.out.on hb1); replace HE := Aside0.mk (HE.out.on hb1); replace HM := Aside0.mk (HM.out.on hb1); replace HR := Aside0.mk (HR.out.on hb1); replace HO := Aside0.mk (HO.out.on hb1); replace HB := Aside0.mk (bl_on HB.out hb1 HB.out.size); replace HS := Aside0.mk (Nat.le_trans HS.out hb1.size); clear hb1; refine ⟨_, rfl, ?_⟩) | ((with_reducible refine gate_st (y := .tmp 20) rfl ?_); refine st_num (HO.out) rfl _ _ rfl rfl rfl ?_; intro v5 hA5 hT5; replace HA := Aside0.mk (HA.out.but hT5 (by first | omega | (have := HXg7.out; omega))); replace HE := Aside0.mk (HE.out.but hT5 (by first | omega | (have := HXg7.out; omega))); replace HM := Aside0.mk (HM.out.but hT5 (by first | omega | (have := HXg7.out; omega))); replace HR := Aside0.mk (HR.out.but hT5 (by first | omega | (have := HXg7.out; omega))); replace HO := Aside0.mk hA5; replace HB := Aside0.mk (bl_but HB.out hT5 HB.out.size (by have := HXg7.out; omega)); replace HS := Aside0.mk (Nat.le_trans HS.out hT5.size); clear hA5 hT5) | ((with_reducible refine gate_dst (N := 21) rfl ?_); refine ld_num (HE.out.range) rfl _ rfl rfl ?_) | ((with_reducible refine gate_callee (f := 41) rfl ?_); refine goesL_ (some 23) rfl rfl Try.func41 (by kernel_rfl) rfl #[numV e, .int .i64 (i : Int)] rfl (by (try simp only [List.map_toArray, List.map_cons, List.map_nil]); first | done | rfl) ?_; (with_reducible refine (HBI.out _).mono ?_); rintro e1 v6 ⟨rfl, hb6⟩; replace HA := Aside0.mk (HA.out.on hb6); replace HE := Aside0.mk (HE.out.on hb6); replace HM := Aside0.mk (HM.out.on hb6); replace HR := Aside0.mk (HR.out.on hb6); replace HO := Aside0.mk (HO.out.on hb6); replace HB := Aside0.mk (bl_on HB.out hb6 HB.out.size); replace HS := Aside0.mk (Nat.le_trans HS.out hb6.size); clear hb6; refine ⟨_, rfl, ?_⟩))
        go_wp2
        refine ⟨⟨i, ?_, ?_, ?_, ?_, ?_, ?_, ?_, ?_, ?_⟩, ?_⟩
        · exact Nat.le_of_lt HIL.out
        · (try rw [q1])
        · exact HA
        · exact HE
        · exact HM
        · exact HR
        · rw [← HR2.out]; exact HO
        · exact HB
        · exact HS
        · (try rw [q1]); exact cut_meas i
      | true =>
        have HR2 := Aside0.mk (hst.2 rfl)
        clear hst
        go_upto_region 4 with (first | ((with_reducible refine gate_dst (N := 17) rfl ?_); refine ld_num (HO.out.range) rfl _ rfl rfl ?_) | ((with_reducible refine gate_dst (N := 18) rfl ?_); refine ld_num (HO.out.range) rfl _ rfl rfl ?_) | ((with_reducible refine gate_dst (N := 19) rfl ?_); refine ld_num (HM.out.range) rfl _ rfl rfl ?_) | ((with_reducible refine gate_callee (f := 24) rfl ?_); refine goesL_ (some 20) rfl rfl Try.func24 (by kernel_rfl) rfl #[numV v, numV v, numV m] rfl (by (try simp only [List.map_toArray, List.map_cons, List.map_nil]); first | done | rfl) ?_; (with_reducible refine (HC1.out _).mono ?_); rintro e1 v1 ⟨rfl, hb1⟩; replace HA := Aside0.mk (HA.out.on hb1); replace HE := Aside0.mk (HE.out.on hb1); replace HM := Aside0.mk (HM.out.on hb1); replace HR := Aside0.mk (HR.out.on hb1); replace HO := Aside0.mk (HO.out.on hb1); replace HB := Aside0.mk (bl_on HB.out hb1 HB.out.size); replace HS := Aside0.mk (Nat.le_trans HS.out hb1.size); clear hb1; refine ⟨_, rfl, ?_⟩) | ((with_reducible refine gate_st (y := .tmp 20) rfl ?_); refine st_num (HO.out) rfl _ _ rfl rfl rfl ?_; intro v5 hA5 hT5; replace HA := Aside0.mk (HA.out.but hT5 (by first | omega | (have := HXg7.out; omega))); replace HE := Aside0.mk (HE.out.but hT5 (by first | omega | (have := HXg7.out; omega))); replace HM := Aside0.mk (HM.out.but hT5 (by first | omega | (have := HXg7.out; omega))); replace HR := Aside0.mk (HR.out.but hT5 (by first | omega | (have := HXg7.out; omega))); replace HO := Aside0.mk hA5; replace HB := Aside0.mk (bl_but HB.out hT5 HB.out.size (by have := HXg7.out; omega)); replace HS := Aside0.mk (Nat.le_trans HS.out hT5.size); clear hA5 hT5) | ((with_reducible refine gate_dst (N := 21) rfl ?_); refine ld_num (HE.out.range) rfl _ rfl rfl ?_) | ((with_reducible refine gate_callee (f := 41) rfl ?_); refine goesL_ (some 23) rfl rfl Try.func41 (by kernel_rfl) rfl #[numV e, .int .i64 (i : Int)] rfl (by (try simp only [List.map_toArray, List.map_cons, List.map_nil]); first | done | rfl) ?_; (with_reducible refine (HBI.out _).mono ?_); rintro e1 v6 ⟨rfl, hb6⟩; replace HA := Aside0.mk (HA.out.on hb6); replace HE := Aside0.mk (HE.out.on hb6); replace HM := Aside0.mk (HM.out.on hb6); replace HR := Aside0.mk (HR.out.on hb6); replace HO := Aside0.mk (HO.out.on hb6); replace HB := Aside0.mk (bl_on HB.out hb6 HB.out.size); replace HS := Aside0.mk (Nat.le_trans HS.out hb6.size); clear hb6; refine ⟨_, rfl, ?_⟩) | ((with_reducible refine gate_dst (N := 25) rfl ?_); refine ld_num (HO.out.range) rfl _ rfl rfl ?_) | ((with_reducible refine gate_dst (N := 26) rfl ?_); refine ld_num (HA.out.range) rfl _ rfl rfl ?_) | ((with_reducible refine gate_dst (N := 27) rfl ?_); refine ld_num (HM.out.range) rfl _ rfl rfl ?_) | ((with_reducible refine gate_callee (f := 24) rfl ?_); refine goesL_ (some 28) rfl rfl Try.func24 (by kernel_rfl) rfl #[numV v2, numV a, numV m] rfl (by (try simp only [List.map_toArray, List.map_cons, List.map_nil]); first | done | rfl) ?_; (with_reducible refine (HC2.out _).mono ?_); rintro e1 v7 ⟨rfl, hb7⟩; replace HA := Aside0.mk (HA.out.on hb7); replace HE := Aside0.mk (HE.out.on hb7); replace HM := Aside0.mk (HM.out.on hb7); replace HR := Aside0.mk (HR.out.on hb7); replace HO := Aside0.mk (HO.out.on hb7); replace HB := Aside0.mk (bl_on HB.out hb7 HB.out.size); replace HS := Aside0.mk (Nat.le_trans HS.out hb7.size); clear hb7; refine ⟨_, rfl, ?_⟩) | ((with_reducible refine gate_st (y := .tmp 28) rfl ?_); refine st_num (HO.out) rfl _ _ rfl rfl rfl ?_; intro v8 hA8 hT8; replace HA := Aside0.mk (HA.out.but hT8 (by first | omega | (have := HXg7.out; omega))); replace HE := Aside0.mk (HE.out.but hT8 (by first | omega | (have := HXg7.out; omega))); replace HM := Aside0.mk (HM.out.but hT8 (by first | omega | (have := HXg7.out; omega))); replace HR := Aside0.mk (HR.out.but hT8 (by first | omega | (have := HXg7.out; omega))); replace HO := Aside0.mk hA8; replace HB := Aside0.mk (bl_but HB.out hT8 HB.out.size (by have := HXg7.out; omega)); replace HS := Aside0.mk (Nat.le_trans HS.out hT8.size); clear hA8 hT8))
        go_wp2
        refine ⟨⟨i, ?_, ?_, ?_, ?_, ?_, ?_, ?_, ?_, ?_⟩, ?_⟩
        · exact Nat.le_of_lt HIL.out
        · (try rw [q1])
        · exact HA
        · exact HE
        · exact HM
        · exact HR
        · rw [← HR2.out]; exact HO
        · exact HB
        · exact HS
        · (try rw [q1]); exact cut_meas i
end Go.Proofs.Ytojjbcjndgekmaa
