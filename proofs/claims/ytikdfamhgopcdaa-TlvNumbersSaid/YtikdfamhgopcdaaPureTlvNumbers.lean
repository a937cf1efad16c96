/- TlvNumbers, the plain law: the printed functions answer true for every input. -/
import Derived.Test.YtikdfamhgopcdaaTeTlvNumbers
namespace Go.Proofs.Ytikdfamhgopcdaa.Pure
open Go.RowKit Go.ChangeShapes Go.WideShapes Go.Proofs.Ytikdfamhgopcdaa.PTlvNumbers Go.Proofs.YtikdfamhgopcdaaW.PrintWords Go.Proofs.YtikdfamhgopcdaaW.PrintLast
set_option linter.unusedVariables false
set_option linter.unusedSimpArgs false
theorem rof_round (k : Nat) (x : Int) (l : List Int) (i : Nat) (hi : i < 8) (hl : l.length = 8) (hx : 0 ≤ x) (hx2 : x * 256 + rd l (i : Int) ≤ 9223372036854775807) (hb : 0 ≤ rd l (i : Int)) (hb2 : rd l (i : Int) < 256) :
    clapperref08_Of.l0 (k + 1) l x (i : Int) = clapperref08_Of.l0 k l (x * 256 + rd l (i : Int)) ((i + 1 : Nat) : Int) := by
  simp only [clapperref08_Of.l0]
  rw [if_pos (by omega), if_pos (by omega), if_pos (by omega), wrap_id (n := 256 * x) (by omega) (by omega), wrap_id (n := rd l (i : Int)) (by omega) (by omega), wrap_id (by omega) (by omega), wrap_id (by omega) (by omega)]
  rw [Int.mul_comm 256 x]
  rfl
theorem rof (l : List Int) (hb : okB l) (k : Nat) : clapperref08_Of.f (k + 11) l = some (if l.length = 8 then (if be8 l > 9223372036854775807 then -1 else be8 l) else -1) := by
  unfold clapperref08_Of.f
  by_cases h8 : l.length = 8
  · rw [if_pos (by omega), if_pos (by omega), if_pos h8]
    have h0 := rd_ok hb 0 (by omega); have h1 := rd_ok hb 1 (by omega); have h2 := rd_ok hb 2 (by omega); have h3 := rd_ok hb 3 (by omega)
    have h4 := rd_ok hb 4 (by omega); have h5 := rd_ok hb 5 (by omega); have h6 := rd_ok hb 6 (by omega); have h7 := rd_ok hb 7 (by omega)
    have ebe : be8 l = rd l ((0 : Nat) : Int) * 72057594037927936 + rd l ((1 : Nat) : Int) * 281474976710656 + rd l ((2 : Nat) : Int) * 1099511627776 + rd l ((3 : Nat) : Int) * 4294967296 + rd l ((4 : Nat) : Int) * 16777216 + rd l ((5 : Nat) : Int) * 65536 + rd l ((6 : Nat) : Int) * 256 + rd l ((7 : Nat) : Int) := rfl
    simp only [clapperref08_Of.j0]
    by_cases hg : rd l ((0 : Nat) : Int) > 127
    · have hg' : decide (rd l 0 > 127) = true := decide_eq_true hg
      rw [if_pos hg', if_pos (by rw [ebe]; omega)]
    · have hg' : decide (rd l 0 > 127) = false := decide_eq_false hg
      rw [hg', if_neg (by simp), if_neg (by rw [ebe]; omega)]
      have r0 := rof_round (k + 9) 0 l 0 (by omega) h8 (by omega) (by omega) h0.1 h0.2
      have r1 := rof_round (k + 8) (0 * 256 + rd l ((0 : Nat) : Int)) l 1 (by omega) h8 (by omega) (by omega) h1.1 h1.2
      have r2 := rof_round (k + 7) ((0 * 256 + rd l ((0 : Nat) : Int)) * 256 + rd l ((1 : Nat) : Int)) l 2 (by omega) h8 (by omega) (by omega) h2.1 h2.2
      have r3 := rof_round (k + 6) (((0 * 256 + rd l ((0 : Nat) : Int)) * 256 + rd l ((1 : Nat) : Int)) * 256 + rd l ((2 : Nat) : Int)) l 3 (by omega) h8 (by omega) (by omega) h3.1 h3.2
      have r4 := rof_round (k + 5) ((((0 * 256 + rd l ((0 : Nat) : Int)) * 256 + rd l ((1 : Nat) : Int)) * 256 + rd l ((2 : Nat) : Int)) * 256 + rd l ((3 : Nat) : Int)) l 4 (by omega) h8 (by omega) (by omega) h4.1 h4.2
      have r5 := rof_round (k + 4) (((((0 * 256 + rd l ((0 : Nat) : Int)) * 256 + rd l ((1 : Nat) : Int)) * 256 + rd l ((2 : Nat) : Int)) * 256 + rd l ((3 : Nat) : Int)) * 256 + rd l ((4 : Nat) : Int)) l 5 (by omega) h8 (by omega) (by omega) h5.1 h5.2
      have r6 := rof_round (k + 3) ((((((0 * 256 + rd l ((0 : Nat) : Int)) * 256 + rd l ((1 : Nat) : Int)) * 256 + rd l ((2 : Nat) : Int)) * 256 + rd l ((3 : Nat) : Int)) * 256 + rd l ((4 : Nat) : Int)) * 256 + rd l ((5 : Nat) : Int)) l 6 (by omega) h8 (by omega) (by omega) h6.1 h6.2
      have r7 := rof_round (k + 2) (((((((0 * 256 + rd l ((0 : Nat) : Int)) * 256 + rd l ((1 : Nat) : Int)) * 256 + rd l ((2 : Nat) : Int)) * 256 + rd l ((3 : Nat) : Int)) * 256 + rd l ((4 : Nat) : Int)) * 256 + rd l ((5 : Nat) : Int)) * 256 + rd l ((6 : Nat) : Int)) l 7 (by omega) h8 (by omega) (by omega) h7.1 h7.2
      refine r0.trans (r1.trans (r2.trans (r3.trans (r4.trans (r5.trans (r6.trans (r7.trans ?_)))))))
      simp only [clapperref08_Of.l0]
      rw [if_neg (by omega)]
      congr 1
      rw [ebe]
      omega
  · rw [if_neg (by omega), if_neg h8]
    simp [clapperref08_Of.j0]
theorem rn_round (k : Nat) (x : Int) (l : List Int) (i : Nat) (hi : i < 8) (hx : 0 ≤ x) (hx2 : x ≤ 9223372036854775807) (hl : l.length ≤ 8) :
    clapperref08_Number.l0 (k + 1) x l (i : Int) = clapperref08_Number.l0 k (x / 256) (x % 256 :: l) ((i + 1 : Nat) : Int) := by
  have e1 : Int.tmod x 256 = x % 256 := Int.tmod_eq_emod_of_nonneg hx
  have e2 : Int.tdiv x 256 = x / 256 := Int.tdiv_eq_ediv_of_nonneg hx
  simp only [clapperref08_Number.l0]
  rw [if_pos (by omega)]
  simp only [Option.bind_some]
  rw [if_pos (by simp; omega), e1, e2, wrap_id (n := x / 256) (by omega) (by omega), wrap_id (by omega) (by omega), Int.emod_emod]
  rfl
theorem rnumber (m : Int) (h0 : 0 ≤ m) (h1 : m ≤ 9223372036854775807) (k : Nat) : clapperref08_Number.f (k + 9) m = some (strOfNums (dig m)) := by
  unfold clapperref08_Number.f
  have r0 := rn_round (k + 8) m [] 0 (by omega) h0 h1 (by simp)
  have r1 := rn_round (k + 7) (m / 256) [m % 256] 1 (by omega) (by omega) (by omega) (by simp)
  have r2 := rn_round (k + 6) (m / 256 / 256) [m / 256 % 256, m % 256] 2 (by omega) (by omega) (by omega) (by simp)
  have r3 := rn_round (k + 5) (m / 256 / 256 / 256) [m / 256 / 256 % 256, m / 256 % 256, m % 256] 3 (by omega) (by omega) (by omega) (by simp)
  have r4 := rn_round (k + 4) (m / 256 / 256 / 256 / 256) [m / 256 / 256 / 256 % 256, m / 256 / 256 % 256, m / 256 % 256, m % 256] 4 (by omega) (by omega) (by omega) (by simp)
  have r5 := rn_round (k + 3) (m / 256 / 256 / 256 / 256 / 256) [m / 256 / 256 / 256 / 256 % 256, m / 256 / 256 / 256 % 256, m / 256 / 256 % 256, m / 256 % 256, m % 256] 5 (by omega) (by omega) (by omega) (by simp)
  have r6 := rn_round (k + 2) (m / 256 / 256 / 256 / 256 / 256 / 256) [m / 256 / 256 / 256 / 256 / 256 % 256, m / 256 / 256 / 256 / 256 % 256, m / 256 / 256 / 256 % 256, m / 256 / 256 % 256, m / 256 % 256, m % 256] 6 (by omega) (by omega) (by omega) (by simp)
  have r7 := rn_round (k + 1) (m / 256 / 256 / 256 / 256 / 256 / 256 / 256) [m / 256 / 256 / 256 / 256 / 256 / 256 % 256, m / 256 / 256 / 256 / 256 / 256 % 256, m / 256 / 256 / 256 / 256 % 256, m / 256 / 256 / 256 % 256, m / 256 / 256 % 256, m / 256 % 256, m % 256] 7 (by omega) (by omega) (by omega) (by simp)
  refine r0.trans (r1.trans (r2.trans (r3.trans (r4.trans (r5.trans (r6.trans (r7.trans ?_)))))))
  simp only [clapperref08_Number.l0]
  rw [if_neg (by omega)]
  congr 2
  simp only [dig]
  rw [show m / 256 / 256 / 256 / 256 / 256 / 256 / 256 % 256 = m / 72057594037927936 % 256 by omega, show m / 256 / 256 / 256 / 256 / 256 / 256 % 256 = m / 281474976710656 % 256 by omega, show m / 256 / 256 / 256 / 256 / 256 % 256 = m / 1099511627776 % 256 by omega, show m / 256 / 256 / 256 / 256 % 256 = m / 4294967296 % 256 by omega, show m / 256 / 256 / 256 % 256 = m / 16777216 % 256 by omega, show m / 256 / 256 % 256 = m / 65536 % 256 by omega]
theorem bytes_str {l : List Int} (h : okB l) : bytesOf (strOfNums l) = l := by
  unfold bytesOf
  rw [strOfNums_data, List.map_map]
  conv => rhs; rw [← List.map_id l]
  apply List.map_congr_left
  intro x hx
  have := h x hx
  simp only [Function.comp, id]
  rw [UInt8.toNat_ofNat']
  omega
theorem neg_loop (p q : List Int) (hp : p.length = 8) (hq : q.length = 8) (ho : okB q) (hpq : ∀ i : Nat, i < 8 → rd p (i : Int) = 255 - rd q (i : Int)) : ∀ (d i k : Nat), i + d = 8 → 2 * d + 1 < k →
    clapperlaw08_TlvNumbers.l0 k true p (strOfNums q) (i : Int) = some true := by
  intro d
  induction d with
  | zero =>
    intro i k hi hk
    obtain ⟨k, rfl, hk2⟩ := succ_k (show 1 < k by omega)
    obtain ⟨k, rfl, hk3⟩ := succ_k (show 0 < k by omega)
    simp only [clapperlaw08_TlvNumbers.l0]
    rw [if_neg (by omega)]
    simp [clapperlaw08_TlvNumbers.j2, hp]
  | succ d ih =>
    intro i k hi hk
    obtain ⟨k, rfl, hk2⟩ := succ_k (show 2 * d + 3 < k by omega)
    obtain ⟨k, rfl, hk3⟩ := succ_k (show 2 * d + 2 < k by omega)
    simp only [clapperlaw08_TlvNumbers.l0]
    rw [if_pos (by omega), decide_eq_true (show (i : Int) < 8 by omega)]
    simp only [clapperlaw08_TlvNumbers.j2]
    have hs : ((strOfNums q).size : Int) = 8 := by rw [strOfNums_size, hq]; rfl
    have hb := rd_ok ho i (by omega)
    rw [if_pos trivial, if_pos (by omega), if_pos (by omega), if_pos (by omega), ← rd_bytesOf, bytes_str ho, hpq i (by omega), if_pos (by omega), wrap_id (by omega) (by omega)]
    exact ih (i + 1) k (by omega) (by omega)
theorem TlvNumbers (a : Int) (wa : (Lit.int .i64 a).wf = true) (l : List Int) (_hm : l.length ≤ maxLen) (wl : ∀ x, x ∈ l → (fun n => (Lit.int .u8 n).wf = true) x) : ∃ k, clapperlaw08_TlvNumbers.f k a l = some true := by
  have ha := bounds_i64 wa
  have ho : okB l := okB_of wl
  refine ⟨60, ?_⟩
  unfold clapperlaw08_TlvNumbers.f clapperlaw08_up.f
  simp only [Option.bind_some]
  rw [tof l ho 51, rof l ho 49]
  simp only [Option.bind_some]
  have tail : clapperlaw08_TlvNumbers.j0 60 a true false = some true := by
    simp only [clapperlaw08_TlvNumbers.j0]
    rw [if_neg (by simp), tnumber a 50]
    simp only [Option.bind_some]
    by_cases hn : a < 0
    · rw [if_pos hn, wrap_id (n := a + 1) (by omega) (by omega), wrap_id (by omega) (by omega), rnumber _ (by omega) (by omega) 50]
      simp only [Option.bind_some]
      refine neg_loop _ _ rfl rfl (okB_dig _) ?_ 8 0 59 (by omega) (by omega)
      intro i hi
      match i, hi with
      | 0, _ => show a % 18446744073709551616 / 72057594037927936 % 256 = 255 - -(a + 1) / 72057594037927936 % 256; omega
      | 1, _ => show a % 18446744073709551616 / 281474976710656 % 256 = 255 - -(a + 1) / 281474976710656 % 256; omega
      | 2, _ => show a % 18446744073709551616 / 1099511627776 % 256 = 255 - -(a + 1) / 1099511627776 % 256; omega
      | 3, _ => show a % 18446744073709551616 / 4294967296 % 256 = 255 - -(a + 1) / 4294967296 % 256; omega
      | 4, _ => show a % 18446744073709551616 / 16777216 % 256 = 255 - -(a + 1) / 16777216 % 256; omega
      | 5, _ => show a % 18446744073709551616 / 65536 % 256 = 255 - -(a + 1) / 65536 % 256; omega
      | 6, _ => show a % 18446744073709551616 / 256 % 256 = 255 - -(a + 1) / 256 % 256; omega
      | 7, _ => show a % 18446744073709551616 % 256 = 255 - -(a + 1) % 256; omega
    · rw [if_neg hn, if_pos trivial, rnumber a (by omega) (by omega) 50, show a % 18446744073709551616 = a by omega]
      simp
  by_cases h8 : l.length = 8
  · rw [if_pos h8, if_pos h8]
    have h0 := rd_ok ho 0 (by omega); have h1 := rd_ok ho 1 (by omega); have h2 := rd_ok ho 2 (by omega); have h3 := rd_ok ho 3 (by omega)
    have h4 := rd_ok ho 4 (by omega); have h5 := rd_ok ho 5 (by omega); have h6 := rd_ok ho 6 (by omega); have h7 := rd_ok ho 7 (by omega)
    have ebe : be8 l = rd l ((0 : Nat) : Int) * 72057594037927936 + rd l ((1 : Nat) : Int) * 281474976710656 + rd l ((2 : Nat) : Int) * 1099511627776 + rd l ((3 : Nat) : Int) * 4294967296 + rd l ((4 : Nat) : Int) * 16777216 + rd l ((5 : Nat) : Int) * 65536 + rd l ((6 : Nat) : Int) * 256 + rd l ((7 : Nat) : Int) := rfl
    by_cases hg : be8 l > 9223372036854775807
    · rw [if_pos hg, if_pos hg]
      simp [tail]
    · rw [if_neg hg, if_neg hg, if_neg (by omega), if_pos (by omega)]
      simp [tail]
  · rw [if_neg h8, if_neg h8]
    simp [tail]
end Go.Proofs.Ytikdfamhgopcdaa.Pure
