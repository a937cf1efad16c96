/- What the proof of NonceLists is made of, part 31. -/
import Derived.Test.YtojlhmmmiebbmaaZNonceLists26
namespace Go.Proofs.Ytojlhmmmiebbmaa
open Go.RowKit Go.Proofs.Ytojlhmmmiebbmaa.Arr Go.Proofs.YtojlhmmmiebbmaaW.PrintWords Go.Proofs.YtojlhmmmiebbmaaW.PrintLast Go.Proofs.YtojlhmmmiebbmaaW.PrintMore
set_option linter.unusedVariables false
set_option linter.unusedSimpArgs false
set_option exponentiation.threshold 600
theorem nw_get (x q : Nat) (hq : q < 4) : (nw x)[q]? = some (.int .u64 (xw x q : Nat)) := by
  have e : ∀ a b : Nat, a = b → (some (.int .u64 (a : Nat)) : Option Value) = some (.int .u64 (b : Nat)) := fun a b h => by rw [h]
  match q, hq with
  | 0, _ => exact e _ _ (by unfold wd0 xw; rw [Nat.mul_zero, Nat.pow_zero, Nat.div_one])
  | 1, _ => exact e _ _ rfl
  | 2, _ => exact e _ _ rfl
  | 3, _ => exact e _ _ rfl
  | n + 4, h => exact absurd h (by omega)
theorem NAt.word {w : World} {g x : Nat} (h : NAt w g x) (q : Nat) (hq : q < 4) : w.cell? ⟨g, q, none⟩ = some (.int .u64 (xw x q : Nat)) := Row.cell h _ _ (nw_get x q hq)
theorem xw_at (x q r : Nat) (hr : r < 64) : xw x q / 2 ^ r % 2 = x / 2 ^ (64 * q + r) % 2 := by
  have h := xw_bit x (64 * q + r)
  rw [show (64 * q + r) / 64 = q by omega, show (64 * q + r) % 64 = r by omega] at h
  exact h
theorem xw_lt (x q : Nat) : xw x q < 2 ^ 64 := Nat.mod_lt _ (by decide)
/-- a word, k times doubled -/
def wk (W k : Nat) : Nat := W * 2 ^ k % 2 ^ 64
theorem wk_zero (W : Nat) (h : W < 2 ^ 64) : wk W 0 = W := by unfold wk; rw [Nat.pow_zero, Nat.mul_one, Nat.mod_eq_of_lt h]
theorem wk_succ (W k : Nat) : (wk W k + wk W k) % 18446744073709551616 = wk W (k + 1) := by
  unfold wk
  rw [show (18446744073709551616 : Nat) = 2 ^ 64 from by decide, ← Nat.add_mod, show 2 ^ (k + 1) = 2 ^ k * 2 from Nat.pow_succ 2 k, ← Nat.mul_assoc, Nat.mul_two]
theorem wk_lt (W k : Nat) : wk W k < 18446744073709551616 := Nat.lt_of_lt_of_eq (Nat.mod_lt _ (by decide)) (by decide)
theorem wk_top (W k : Nat) (hk : k < 64) (hW : W < 2 ^ 64) : (9223372036854775808 ≤ wk W k) ↔ W / 2 ^ (63 - k) % 2 = 1 := by
  have h1 : wk W k / 2 ^ 63 = W / 2 ^ (63 - k) % 2 := by
    have h : (wk W k).testBit 63 = W.testBit (63 - k) := by
      unfold wk
      rw [Nat.testBit_mod_two_pow, Nat.testBit_mul_two_pow]
      simp
      omega
    rw [Nat.testBit_eq_decide_div_mod_eq, Nat.testBit_eq_decide_div_mod_eq, decide_eq_decide] at h
    have h2 := wk_lt W k
    have h3 : (2 : Nat) ^ 63 = 9223372036854775808 := by decide
    rw [h3] at h ⊢
    omega
  rw [← h1]
  have h2 := wk_lt W k
  have h3 : (2 : Nat) ^ 63 = 9223372036854775808 := by decide
  rw [h3]
  omega
theorem wrap_twice (a : Nat) : IntKind.u64.wrap ((a : Int) + (a : Int)) = (((a + a) % 18446744073709551616 : Nat) : Int) := by rw [IntKind.wrap_u64]; omega
/-- one bit more of what is multiplied -/
theorem dbl_step (c B m e : Nat) (hc : c < m) : let v := c * (B / 2 ^ (e + 1)) % m
    (B / 2 ^ e % 2 = 0 → (v + v) % m = c * (B / 2 ^ e) % m) ∧ (B / 2 ^ e % 2 = 1 → ((v + v) % m + c) % m = c * (B / 2 ^ e) % m) := by
  intro v
  have e1 : B / 2 ^ e = 2 * (B / 2 ^ (e + 1)) + B / 2 ^ e % 2 := by rw [Nat.pow_succ, ← Nat.div_div_eq_div_mul]; omega
  have e2 : (v + v) % m = c * (2 * (B / 2 ^ (e + 1))) % m := by
    show (c * (B / 2 ^ (e + 1)) % m + c * (B / 2 ^ (e + 1)) % m) % m = _
    rw [← Nat.add_mod, Nat.mul_left_comm, Nat.two_mul]
  refine ⟨fun h => ?_, fun h => ?_⟩
  · rw [e2]
    rw [h, Nat.add_zero] at e1
    rw [← e1]
  · rw [e2]
    rw [h] at e1
    rw [e1, Nat.mul_add c, Nat.mul_one]
    conv => rhs; rw [Nat.add_mod, Nat.mod_eq_of_lt hc]
theorem inc64 {t : Nat} (h : t < 64) : wrap64 ((t : Int) + 1) = (t : Int) + 1 := by unfold wrap64; omega
theorem meas_k {t : Nat} (h : t < 64) : 64 - (intOf (.int .i64 ((t : Int) + 1))).toNat < 64 - (intOf (.int .i64 (t : Int))).toNat := by
  show 64 - ((t : Int) + 1).toNat < 64 - (t : Int).toNat
  omega
theorem top_zero (c B m n : Nat) (h : B < 2 ^ n) : c * (B / 2 ^ n) % m = 0 := by rw [Nat.div_eq_of_lt h, Nat.mul_zero, Nat.zero_mod]
theorem bit_two (b : Nat) : b % 2 = 0 ∨ b % 2 = 1 := by omega
set_option maxRecDepth 100000 in
set_option maxHeartbeats 8000000 in
/-- clapperref02.Cut -/
theorem rcut_calls (x m : Nat) (w : World) (hm : m < N256) (h1 : 1 < m) (hx : x < N512) :
    Calls Try.prog 39 #[wideV x, numV m] w fun e w' => e = .returned (numV (x % m)) ∧ Below w.heap.size w w' := by
  have HI := Aside0.mk (fun u => rin_lt 1 m u hm h1)
  have HT : Aside0 (1 * (x / 2 ^ (64 * 8)) % m = 0) := Aside0.mk (top_zero 1 x m (64 * 8) (by rw [show 64 * 8 = 512 from rfl, ← n512]; exact hx))
  have HE : Aside0 (1 * (x / 2 ^ (64 * 0)) % m = x % m) := Aside0.mk (by rw [Nat.mul_zero, Nat.pow_zero, Nat.div_one, Nat.one_mul])
  have HCM : Aside0 (1 < m ∧ m < N256) := Aside0.mk ⟨h1, hm⟩
  generalize x % m = res at *
  rw [wideV_def x, numV_def m]
  clear hm h1 hx
  go_enter Try.func39, Try.ntmps39
  go_upto_region 2 with (fail)
  refine wp_at (w2 := (World.alloc (World.alloc (World.alloc (World.alloc w (.cells (nx x).toArray 63)) (.cells (nw m).toArray 24)) (.cells (nw 0).toArray 24)) (.cells (nw 0).toArray 24))) rfl ?_
  obtain ⟨x_0, e_0, h_0, b_0, s_0⟩ := new_wide w x
  obtain ⟨x_1, e_1, h_1, b_1, s_1⟩ := new_num x_0 m
  obtain ⟨x_2, e_2, h_2, b_2, s_2⟩ := new_num x_1 0
  obtain ⟨x_3, e_3, h_3, b_3, s_3⟩ := new_num x_2 0
  rw [e_0, e_1, e_2, e_3]
  rw [s_0] at h_1 s_1
  rw [s_1] at h_2 s_2
  rw [s_2] at h_3 s_3
  have HB : Aside0 (Below w.heap.size w x_3) := Aside0.mk (bl_both (bl_both (bl_both b_0 b_1) b_2) b_3)
  have HX : Aside0 (XAt x_3 (w.heap.size) x) := Aside0.mk (((h_0.on b_1).on b_2).on b_3)
  have HM : Aside0 (NAt x_3 (w.heap.size + 1) m) := Aside0.mk ((h_1.on b_2).on b_3)
  have HR : Aside0 (NAt x_3 (w.heap.size + 1 + 1) 0) := Aside0.mk (h_2.on b_3)
  have HO : Aside0 (NAt x_3 (w.heap.size + 1 + 1 + 1) 0) := Aside0.mk h_3
  have HS : Aside0 (w.heap.size + 1 + 1 + 1 + 1 ≤ x_3.heap.size) := Aside0.mk (Nat.le_of_eq s_3.symm)
  clear e_0 h_0 b_0 s_0 e_1 h_1 b_1 s_1 e_2 h_2 b_2 s_2 e_3 h_3 b_3 s_3
  obtain ⟨w1, hw_⟩ : ∃ x, x = x_3 := ⟨_, rfl⟩
  subst hw_
  clear x_0 x_1 x_2
  go_upto_region 3 with (first | ((with_reducible refine gate_dst (N := 11) rfl ?_); refine ld_num (HM.out.range) rfl _ rfl rfl ?_) | ((with_reducible refine gate_callee (f := 20) rfl ?_); refine goesL_ (some 12) rfl rfl Try.func20 (by kernel_rfl) rfl #[numV 1, numV m] rfl (by (try simp only [List.map_toArray, List.map_cons, List.map_nil]); first | done | rfl) ?_; (with_reducible refine (HI.out _).mono ?_); rintro e u1 ⟨rfl, hb1⟩; replace HX := Aside0.mk (HX.out.on hb1); replace HM := Aside0.mk (HM.out.on hb1); replace HR := Aside0.mk (HR.out.on hb1); replace HO := Aside0.mk (HO.out.on hb1); replace HB := Aside0.mk (bl_on HB.out hb1 HB.out.size); replace HS := Aside0.mk (Nat.le_trans HS.out hb1.size); clear hb1; refine ⟨_, rfl, ?_⟩) | ((with_reducible refine gate_dst (N := 6) rfl ?_); refine al_num rfl _ rfl rfl ?_; intro g6 u2 eg6 HC hb2; have HXg6 : Aside0 (w.heap.size + 1 + 1 + 1 + 1 ≤ g6) := Aside0.mk (by rw [eg6]; exact HS.out); replace HC := Aside0.mk HC; clear eg6; replace HX := Aside0.mk (HX.out.on hb2); replace HM := Aside0.mk (HM.out.on hb2); replace HR := Aside0.mk (HR.out.on hb2); replace HO := Aside0.mk (HO.out.on hb2); replace HB := Aside0.mk (bl_on HB.out hb2 HB.out.size); replace HS := Aside0.mk (Nat.le_trans HS.out hb2.size); clear hb2) | ((with_reducible refine gate_st (y := .tmp 12) rfl ?_); refine st_num (HC.out) rfl _ _ rfl rfl rfl ?_; intro u3 hA3 hT3; replace HX := Aside0.mk (HX.out.but hT3 (by first | omega | (have := HXg6.out; omega))); replace HM := Aside0.mk (HM.out.but hT3 (by first | omega | (have := HXg6.out; omega))); replace HR := Aside0.mk (HR.out.but hT3 (by first | omega | (have := HXg6.out; omega))); replace HO := Aside0.mk (HO.out.but hT3 (by first | omega | (have := HXg6.out; omega))); replace HC := Aside0.mk hA3; replace HB := Aside0.mk (bl_but HB.out hT3 HB.out.size (by have := HXg6.out; omega)); replace HS := Aside0.mk (Nat.le_trans HS.out hT3.size); clear hA3 hT3))
  clear HI
  go_wp2
  replace HO : Aside0 (NAt u3 (w.heap.size + 1 + 1 + 1) (1 * (x / 2 ^ (64 * 8)) % m)) := Aside0.mk (by rw [HT.out]; exact HO.out)
  go_loopw [7] (fun v wr => ∃ j : Nat, j ≤ 8 ∧ v = .int .i64 ((j : Int) - 1) ∧ Aside0 (XAt wr (w.heap.size) (x)) ∧ Aside0 (NAt wr (w.heap.size + 1) (m)) ∧ Aside0 (NAt wr (w.heap.size + 1 + 1) (0)) ∧ Aside0 (NAt wr (w.heap.size + 1 + 1 + 1) (1 * (x / 2 ^ (64 * j)) % m)) ∧ Aside0 (NAt wr (g6) (1)) ∧ Aside0 (Below w.heap.size w wr) ∧ Aside0 (w.heap.size + 1 + 1 + 1 + 1 ≤ wr.heap.size))
    (fun v _ => (intOf v + 1).toNat)
  case atStart => exact ⟨8, Nat.le_refl _, rfl, HX, HM, HR, HO, HC, HB, HS⟩
  case round =>
    clear HX HM HR HO HC HB HS
    obtain ⟨j, hj, rfl, HX, HM, HR, HO, HC, HB, HS⟩ := hrel
    obtain ⟨u0, hu0⟩ : ∃ x, x = wr := ⟨_, rfl⟩
    subst hu0
    by_cases hj0 : j = 0
    · subst hj0
      rw [HE.out] at HO
      clear hj
      go_wp2_with (first | ((with_reducible refine gate_dst (N := 37) rfl ?_); refine ld_num (HO.out.range) rfl _ rfl rfl ?_) | ((with_reducible refine gate_st (y := .tmp 37) rfl ?_); refine st_num (HR.out) rfl _ _ rfl rfl rfl ?_; intro u4 hA4 hT4; replace HX := Aside0.mk (HX.out.but hT4 (by first | omega | (have := HXg6.out; omega))); replace HM := Aside0.mk (HM.out.but hT4 (by first | omega | (have := HXg6.out; omega))); replace HO := Aside0.mk (HO.out.but hT4 (by first | omega | (have := HXg6.out; omega))); replace HC := Aside0.mk (HC.out.but hT4 (by first | omega | (have := HXg6.out; omega))); replace HR := Aside0.mk hA4; replace HB := Aside0.mk (bl_but HB.out hT4 HB.out.size (by omega)); replace HS := Aside0.mk (Nat.le_trans HS.out hT4.size); clear hA4 hT4))
      exact bodyPost_ret (v := numV res) (results_nat rfl rfl HR.out) rfl ⟨rfl, HB.out⟩
    · obtain ⟨i, rfl⟩ : ∃ i, j = i + 1 := ⟨j - 1, by omega⟩
      have hi : i < 8 := hj
      rw [show (((i + 1 : Nat) : Int) - 1) = (i : Int) by omega]
      obtain ⟨W, hW⟩ : ∃ W, W = xw x i := ⟨_, rfl⟩
      have hWl : W < 2 ^ 64 := by rw [hW]; exact xw_lt _ _
      have cx := HX.out.cell i hi
      rw [← hW] at cx
      have t1 : (0 : Int) ≤ (i : Int) := Int.natCast_nonneg i
      have t2 : (i : Int) < 8 := by omega
      have HW := Aside0.mk (And.intro hi (And.intro hW hWl))
      have HO1 : Aside0 (NAt u0 (w.heap.size + 1 + 1 + 1) (1 * (x / 2 ^ (64 * i + (64 - 0))) % m)) := Aside0.mk (by have h := HO.out; rw [show 64 * (i + 1) = 64 * i + (64 - 0) by omega] at h; exact h)
      have HW0 : Aside0 (W = wk W 0) := Aside0.mk (wk_zero W hWl).symm
      clear hi hW hWl hj hj0
      go_wp2
      clear cx t1 t2
      go_loopw [8, 9] (fun vw vk wr => ∃ k : Nat, k ≤ 64 ∧ vk = .int .i64 (k : Int) ∧ vw = .int .u64 ((wk W k : Nat) : Int) ∧ Aside0 (XAt wr (w.heap.size) (x)) ∧ Aside0 (NAt wr (w.heap.size + 1) (m)) ∧ Aside0 (NAt wr (w.heap.size + 1 + 1) (0)) ∧ Aside0 (NAt wr (w.heap.size + 1 + 1 + 1) (1 * (x / 2 ^ (64 * i + (64 - k))) % m)) ∧ Aside0 (NAt wr (g6) (1)) ∧ Aside0 (Below w.heap.size w wr) ∧ Aside0 (w.heap.size + 1 + 1 + 1 + 1 ≤ wr.heap.size))
        (fun _ vk _ => 64 - (intOf vk).toNat)
      case atStart => exact ⟨0, Nat.zero_le _, rfl, by rw [← HW0.out], HX, HM, HR, HO1, HC, HB, HS⟩
      case round =>
        clear HX HM HR HO HC HB HS HO1
        obtain ⟨k, hk, rfl, rfl, HX, HM, HR, HO, HC, HB, HS⟩ := hrel
        obtain ⟨v0, hu0⟩ : ∃ x, x = wr := ⟨_, rfl⟩
        subst hu0
        by_cases hlt : k < 64
        · have t1 : (k : Int) < 64 := by omega
          obtain ⟨E, hE⟩ : ∃ E, E = 64 * i + (64 - (k + 1)) := ⟨_, rfl⟩
          have hE1 : 64 * i + (64 - k) = E + 1 := by omega
          have hbit := wk_top W k hlt HW.out.2.2
          rw [HW.out.2.1, xw_at _ _ _ (by omega), ← HW.out.2.1, show 64 * i + (63 - k) = E by omega] at hbit
          have hst := dbl_step 1 x m E HCM.out.1
          obtain ⟨v, hv⟩ : ∃ v, v = 1 * (x / 2 ^ (E + 1)) % m := ⟨_, rfl⟩
          simp only [← hv] at hst
          rw [hE1, ← hv] at HO
          have hvm : v < m := by rw [hv]; exact Nat.mod_lt _ (Nat.lt_of_le_of_lt (Nat.zero_le _) HCM.out.1)
          obtain ⟨v2, hv2⟩ : ∃ x, x = (v + v) % m := ⟨_, rfl⟩
          have hv2m : v2 < m := by rw [hv2]; exact Nat.mod_lt _ (Nat.lt_of_le_of_lt (Nat.zero_le _) HCM.out.1)
          have hM := HCM.out.2
          have HC1 := Aside0.mk (fun u => fadd_calls (IsNum.mk (Nat.lt_trans hvm hM)) (IsNum.mk (Nat.lt_trans hvm hM)) (IsNum.mk hM) hvm hvm u)
          have HC2 := Aside0.mk (fun u => fadd_calls (IsNum.mk (Nat.lt_trans hv2m hM)) (IsNum.mk (Nat.lt_trans HCM.out.1 hM)) (IsNum.mk hM) hv2m HCM.out.1 u)
          rw [← hv2] at HC1 hst
          have q1 := wrap_twice (wk W k)
          rw [wk_succ] at q1
          have HLT := Aside0.mk hlt
          have HEE := Aside0.mk hE
          have q2 := inc64 hlt
          generalize wk W k = y at *
          clear hE hE1 hv hvm hv2 hv2m hM hlt hk
          rcases bit_two (x / 2 ^ E) with hb0 | hb0
          · have hr := hst.1 hb0
            have d1 : decide ((9223372036854775808 : Int) ≤ (y : Int)) = false := decide_eq_false (by omega)
            have HR2 := Aside0.mk hr
            clear hst hbit hb0 hr
            go_upto_region 9 with (first | ((with_reducible refine gate_dst (N := 24) rfl ?_); refine ld_num (HO.out.range) rfl _ rfl rfl ?_) | ((with_reducible refine gate_dst (N := 25) rfl ?_); refine ld_num (HO.out.range) rfl _ rfl rfl ?_) | ((with_reducible refine gate_dst (N := 26) rfl ?_); refine ld_num (HM.out.range) rfl _ rfl rfl ?_) | ((with_reducible refine gate_callee (f := 49) rfl ?_); refine goesL_ (some 27) rfl rfl Try.func49 (by kernel_rfl) rfl #[numV v, numV v, numV m] rfl (by (try simp only [List.map_toArray, List.map_cons, List.map_nil]); first | done | rfl) ?_; (with_reducible refine (HC1.out _).mono ?_); rintro e v1 ⟨rfl, hb1⟩; replace HX := Aside0.mk (HX.out.on hb1); replace HM := Aside0.mk (HM.out.on hb1); replace HR := Aside0.mk (HR.out.on hb1); replace HO := Aside0.mk (HO.out.on hb1); replace HC := Aside0.mk (HC.out.on hb1); replace HB := Aside0.mk (bl_on HB.out hb1 HB.out.size); replace HS := Aside0.mk (Nat.le_trans HS.out hb1.size); clear hb1; refine ⟨_, rfl, ?_⟩) | ((with_reducible refine gate_st (y := .tmp 27) rfl ?_); refine st_num (HO.out) rfl _ _ rfl rfl rfl ?_; intro v5 hA5 hT5; replace HX := Aside0.mk (HX.out.but hT5 (by first | omega | (have := HXg6.out; omega))); replace HM := Aside0.mk (HM.out.but hT5 (by first | omega | (have := HXg6.out; omega))); replace HR := Aside0.mk (HR.out.but hT5 (by first | omega | (have := HXg6.out; omega))); replace HC := Aside0.mk (HC.out.but hT5 (by first | omega | (have := HXg6.out; omega))); replace HO := Aside0.mk hA5; replace HB := Aside0.mk (bl_but HB.out hT5 HB.out.size (by omega)); replace HS := Aside0.mk (Nat.le_trans HS.out hT5.size); clear hA5 hT5))
            go_wp2
            refine ⟨⟨k + 1, HLT.out, ?_, ?_, ?_, ?_, ?_, ?_, ?_, ?_, ?_⟩, ?_⟩
            · (try rw [q2]); rw [Int.natCast_add]; rfl
            · first | rfl | (rw [q1]; done) | (rw [q1]; rfl)
            · exact HX
            · exact HM
            · exact HR
            · rw [← HEE.out, ← HR2.out]; exact HO
            · exact HC
            · exact HB
            · exact HS
            · (try rw [q2]); exact meas_k HLT.out
          · have hr := hst.2 hb0
            have d1 : decide ((9223372036854775808 : Int) ≤ (y : Int)) = true := decide_eq_true (by omega)
            have HR2 := Aside0.mk hr
            clear hst hbit hb0 hr
            go_upto_region 9 with (first | ((with_reducible refine gate_dst (N := 24) rfl ?_); refine ld_num (HO.out.range) rfl _ rfl rfl ?_) | ((with_reducible refine gate_dst (N := 25) rfl ?_); refine ld_num (HO.out.range) rfl _ rfl rfl ?_) | ((with_reducible refine gate_dst (N := 26) rfl ?_); refine ld_num (HM.out.range) rfl _ rfl rfl ?_) | ((with_reducible refine gate_callee (f := 49) rfl ?_); refine goesL_ (some 27) rfl rfl Try.func49 (by kernel_rfl) rfl #[numV v, numV v, numV m] rfl (by (try simp only [List.map_toArray, List.map_cons, List.map_nil]); first | done | rfl) ?_; (with_reducible refine (HC1.out _).mono ?_); rintro e v1 ⟨rfl, hb1⟩; replace HX := Aside0.mk (HX.out.on hb1); replace HM := Aside0.mk (HM.out.on hb1); replace HR := Aside0.mk (HR.out.on hb1); replace HO := Aside0.mk (HO.out.on hb1); replace HC := Aside0.mk (HC.out.on hb1); replace HB := Aside0.mk (bl_on HB.out hb1 HB.out.size); replace HS := Aside0.mk (Nat.le_trans HS.out hb1.size); clear hb1; refine ⟨_, rfl, ?_⟩) | ((with_reducible refine gate_st (y := .tmp 27) rfl ?_); refine st_num (HO.out) rfl _ _ rfl rfl rfl ?_; intro v5 hA5 hT5; replace HX := Aside0.mk (HX.out.but hT5 (by first | omega | (have := HXg6.out; omega))); replace HM := Aside0.mk (HM.out.but hT5 (by first | omega | (have := HXg6.out; omega))); replace HR := Aside0.mk (HR.out.but hT5 (by first | omega | (have := HXg6.out; omega))); replace HC := Aside0.mk (HC.out.but hT5 (by first | omega | (have := HXg6.out; omega))); replace HO := Aside0.mk hA5; replace HB := Aside0.mk (bl_but HB.out hT5 HB.out.size (by omega)); replace HS := Aside0.mk (Nat.le_trans HS.out hT5.size); clear hA5 hT5) | ((with_reducible refine gate_dst (N := 30) rfl ?_); refine ld_num (HO.out.range) rfl _ rfl rfl ?_) | ((with_reducible refine gate_dst (N := 31) rfl ?_); refine ld_num (HC.out.range) rfl _ rfl rfl ?_) | ((with_reducible refine gate_dst (N := 32) rfl ?_); refine ld_num (HM.out.range) rfl _ rfl rfl ?_) | ((with_reducible refine gate_callee (f := 49) rfl ?_); refine goesL_ (some 33) rfl rfl Try.func49 (by kernel_rfl) rfl #[numV v2, numV 1, numV m] rfl (by (try simp only [List.map_toArray, List.map_cons, List.map_nil]); first | done | rfl) ?_; (with_reducible refine (HC2.out _).mono ?_); rintro e v7 ⟨rfl, hb7⟩; replace HX := Aside0.mk (HX.out.on hb7); replace HM := Aside0.mk (HM.out.on hb7); replace HR := Aside0.mk (HR.out.on hb7); replace HO := Aside0.mk (HO.out.on hb7); replace HC := Aside0.mk (HC.out.on hb7); replace HB := Aside0.mk (bl_on HB.out hb7 HB.out.size); replace HS := Aside0.mk (Nat.le_trans HS.out hb7.size); clear hb7; refine ⟨_, rfl, ?_⟩) | ((with_reducible refine gate_st (y := .tmp 33) rfl ?_); refine st_num (HO.out) rfl _ _ rfl rfl rfl ?_; intro v8 hA8 hT8; replace HX := Aside0.mk (HX.out.but hT8 (by first | omega | (have := HXg6.out; omega))); replace HM := Aside0.mk (HM.out.but hT8 (by first | omega | (have := HXg6.out; omega))); replace HR := Aside0.mk (HR.out.but hT8 (by first | omega | (have := HXg6.out; omega))); replace HC := Aside0.mk (HC.out.but hT8 (by first | omega | (have := HXg6.out; omega))); replace HO := Aside0.mk hA8; replace HB := Aside0.mk (bl_but HB.out hT8 HB.out.size (by omega)); replace HS := Aside0.mk (Nat.le_trans HS.out hT8.size); clear hA8 hT8))
            go_wp2
            refine ⟨⟨k + 1, HLT.out, ?_, ?_, ?_, ?_, ?_, ?_, ?_, ?_, ?_⟩, ?_⟩
            · (try rw [q2]); rw [Int.natCast_add]; rfl
            · first | rfl | (rw [q1]; done) | (rw [q1]; rfl)
            · exact HX
            · exact HM
            · exact HR
            · rw [← HEE.out, ← HR2.out]; exact HO
            · exact HC
            · exact HB
            · exact HS
            · (try rw [q2]); exact meas_k HLT.out
        · have hk64 : k = 64 := by omega
          subst hk64
          have d1 := dec64 i (by have := HW.out.1; omega)
          rw [show ((64 : Nat) : Int) = 64 from rfl]
          clear hk hlt
          go_wp2
          refine ⟨⟨i, ?_, ?_, ?_, ?_, ?_, ?_, ?_, ?_, ?_⟩, ?_⟩
          · exact Nat.le_of_lt HW.out.1
          · (try rw [d1])
          · exact HX
          · exact HM
          · exact HR
          · rw [show 64 * i = 64 * i + (64 - 64) by omega]; exact HO
          · exact HC
          · exact HB
          · exact HS
          · (try rw [d1]); exact cut_meas i
end Go.Proofs.Ytojlhmmmiebbmaa
namespace Go.Proofs.Ytojlhmmmiebbmaa
open Go.RowKit Go.Proofs.Ytojlhmmmiebbmaa.Arr Go.Proofs.YtojlhmmmiebbmaaW.PrintWords Go.Proofs.YtojlhmmmiebbmaaW.PrintLast Go.Proofs.YtojlhmmmiebbmaaW.PrintMore
set_option linter.unusedVariables false
set_option linter.unusedSimpArgs false
set_option maxRecDepth 100000 in
set_option maxHeartbeats 8000000 in
/-- clapperref02.In -/
theorem rin_calls (a m : Nat) (w : World) (hm : m < N256) (h1 : 1 < m) (ha : a < N256) :
    Calls Try.prog 20 #[numV a, numV m] w fun e w' => e = .returned (numV (a % m)) ∧ Below w.heap.size w w' := by
  by_cases hlt : a < m
  · rw [Nat.mod_eq_of_lt hlt]
    exact rin_lt a m w hm hlt
  · have HL := Aside0.mk (fun u => less_calls (IsNum.mk ha) (IsNum.mk hm) u)
    have HC := Aside0.mk (fun u => rcut_calls a m u hm h1 (n256_512 ha))
    have HW := Aside0.mk (wide_num a ha)
    rw [decide_eq_false hlt] at HL
    generalize a % m = r at *
    clear hm ha h1 hlt
    rw [numV_def a, numV_def m]
    go_enter Try.func20, Try.ntmps20
    go_upto_region 1 with (fail)
    refine wp_at (w2 := (World.alloc (World.alloc (World.alloc w (.cells (nw a).toArray 24)) (.cells (nw m).toArray 24)) (.cells (nw 0).toArray 24))) rfl ?_
    obtain ⟨x_0, e_0, h_0, b_0, s_0⟩ := new_num w a
    obtain ⟨x_1, e_1, h_1, b_1, s_1⟩ := new_num x_0 m
    obtain ⟨x_2, e_2, h_2, b_2, s_2⟩ := new_num x_1 0
    rw [e_0, e_1, e_2]
    rw [s_0] at h_1 s_1
    rw [s_1] at h_2 s_2
    have HB : Aside0 (Below w.heap.size w x_2) := Aside0.mk (bl_both (bl_both b_0 b_1) b_2)
    have HA : Aside0 (NAt x_2 (w.heap.size) a) := Aside0.mk ((h_0.on b_1).on b_2)
    have HM : Aside0 (NAt x_2 (w.heap.size + 1) m) := Aside0.mk (h_1.on b_2)
    have HO : Aside0 (NAt x_2 (w.heap.size + 1 + 1) 0) := Aside0.mk h_2
    have HS : Aside0 (w.heap.size + 1 + 1 + 1 ≤ x_2.heap.size) := Aside0.mk (Nat.le_of_eq s_2.symm)
    clear e_0 h_0 b_0 s_0 e_1 h_1 b_1 s_1 e_2 h_2 b_2 s_2
    obtain ⟨w1, hw_⟩ : ∃ x, x = x_2 := ⟨_, rfl⟩
    subst hw_
    clear x_0 x_1
    go_upto_region 3 with (first | ((with_reducible refine gate_dst (N := 5) rfl ?_); refine ld_num (HA.out.range) rfl _ rfl rfl ?_) | ((with_reducible refine gate_dst (N := 6) rfl ?_); refine ld_num (HM.out.range) rfl _ rfl rfl ?_) | ((with_reducible refine gate_callee (f := 38) rfl ?_); refine goesL_ (some 7) rfl rfl Try.func38 (by kernel_rfl) rfl #[numV a, numV m] rfl (by (try simp only [List.map_toArray, List.map_cons, List.map_nil]); first | done | rfl) ?_; (with_reducible refine (HL.out _).mono ?_); rintro e u1 ⟨rfl, hb1⟩; replace HA := Aside0.mk (HA.out.on hb1); replace HM := Aside0.mk (HM.out.on hb1); replace HO := Aside0.mk (HO.out.on hb1); replace HB := Aside0.mk (bl_on HB.out hb1 HB.out.size); replace HS := Aside0.mk (Nat.le_trans HS.out hb1.size); clear hb1; refine ⟨_, rfl, ?_⟩))
    obtain ⟨ca0, ca1, ca2, ca3⟩ := HA.out.cell
    go_wp2_with (first | ((with_reducible refine gate_dst (N := 18) rfl ?_); refine ld_num (HM.out.range) rfl _ rfl rfl ?_) | ((with_reducible refine gate_callee (f := 39) rfl ?_); refine goesL_ (some 19) rfl rfl Try.func39 (by kernel_rfl) rfl #[wideV a, numV m] rfl (by (try rw [← HW.out]); (try simp only [List.map_toArray, List.map_cons, List.map_nil]); first | done | rfl) ?_; (with_reducible refine (HC.out _).mono ?_); rintro e u2 ⟨rfl, hb2⟩; clear ca0 ca1 ca2 ca3; replace HA := Aside0.mk (HA.out.on hb2); replace HM := Aside0.mk (HM.out.on hb2); replace HO := Aside0.mk (HO.out.on hb2); replace HB := Aside0.mk (bl_on HB.out hb2 HB.out.size); replace HS := Aside0.mk (Nat.le_trans HS.out hb2.size); clear hb2; refine ⟨_, rfl, ?_⟩) | ((with_reducible refine gate_st (y := .tmp 19) rfl ?_); refine st_num (HO.out) rfl _ _ rfl rfl rfl ?_; intro u3 hA3 hT3; replace HA := Aside0.mk (HA.out.but hT3 (by omega)); replace HM := Aside0.mk (HM.out.but hT3 (by omega)); replace HO := Aside0.mk hA3; replace HB := Aside0.mk (bl_but HB.out hT3 HB.out.size (by omega)); replace HS := Aside0.mk (Nat.le_trans HS.out hT3.size); clear hA3 hT3))
    exact bodyPost_ret (v := numV r) (results_nat rfl rfl HO.out) rfl ⟨rfl, HB.out⟩
end Go.Proofs.Ytojlhmmmiebbmaa
