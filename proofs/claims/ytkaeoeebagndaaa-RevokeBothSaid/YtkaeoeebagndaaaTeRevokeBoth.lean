/- .. numbers and their bytes. -/
import Derived.Test.YtkaeoeebagndaaaTaRevokeBoth
import Derived.Laws.Bits64
import Derived.Laws.BitsAllLaws
namespace Go.Proofs.Ytkaeoeebagndaaa.Pure
open Go.RowKit Go.ChangeShapes Go.WideShapes Go.Proofs.Ytkaeoeebagndaaa.PRevokeBoth Go.Proofs.YtkaeoeebagndaaaW.PrintWords Go.Proofs.YtkaeoeebagndaaaW.PrintLast Go.Proofs.YtkaeoeebagndaaaW.PrintMore
set_option linter.unusedVariables false
set_option linter.unusedSimpArgs false
theorem or_step (x b : Int) (hx : 0 ≤ x) (hx2 : x < 72057594037927936) (hb : 0 ≤ b) (hb2 : b < 256) : Go.bits .or .u64 (IntKind.u64.wrap (x * 256)) (IntKind.u64.wrap b) = x * 256 + b := by
  rw [IntKind.wrap_u64, IntKind.wrap_u64, show (x * 256) % 18446744073709551616 = x * 256 by omega, show b % 18446744073709551616 = b by omega]
  obtain ⟨x, rfl⟩ := Int.eq_ofNat_of_zero_le hx
  obtain ⟨b, rfl⟩ := Int.eq_ofNat_of_zero_le hb
  have e : ((x : Int) * 256) = ((x * 256 : Nat) : Int) := by omega
  rw [e, u64_or_nat _ _ (by omega) (by omega)]
  have h := Nat.two_pow_add_eq_or_of_lt (i := 8) (b := b) (show b < 2 ^ 8 by omega) x
  rw [Nat.mul_comm] at h
  have h2 : x * 256 + b = x * 256 ||| b := h
  rw [← h2]
  omega
theorem of_round (k : Nat) (x : Int) (l : List Int) (i : Nat) (hi : i < 8) (hl : l.length = 8) (hx : 0 ≤ x) (hx2 : x < 72057594037927936) (hb : 0 ≤ rd l (i : Int)) (hb2 : rd l (i : Int) < 256) :
    tlv_Of.l0 (k + 1) x l 8 (i : Int) = tlv_Of.l0 k (x * 256 + rd l (i : Int)) l 8 ((i + 1 : Nat) : Int) := by
  simp only [tlv_Of.l0]
  rw [if_pos (by omega), if_pos (by omega), if_pos (by omega), or_step x _ hx hx2 hb hb2, wrap_id (by omega) (by omega)]
  rfl
/-- the number of eight bytes -/
def be8 (l : List Int) : Int := rd l 0 * 72057594037927936 + rd l 1 * 281474976710656 + rd l 2 * 1099511627776 + rd l 3 * 4294967296 + rd l 4 * 16777216 + rd l 5 * 65536 + rd l 6 * 256 + rd l 7
theorem rd_ok {l : List Int} (hb : okB l) (i : Nat) (h : i < l.length) : 0 ≤ rd l (i : Int) ∧ rd l (i : Int) < 256 := by
  have e : rd l (i : Int) = l[i] := by
    show l.getD ((i : Int)).toNat 0 = _
    simp [List.getD, h]
  rw [e]
  exact hb _ (List.getElem_mem h)
theorem tof (l : List Int) (hb : okB l) (k : Nat) : tlv_Of.f (k + 9) l = some (if l.length = 8 then (if be8 l > 9223372036854775807 then (0, some 2) else (be8 l, none)) else (0, some 2)) := by
  unfold tlv_Of.f
  by_cases h8 : l.length = 8
  · rw [if_pos (by omega), if_pos h8]
    have h0 := rd_ok hb 0 (by omega); have h1 := rd_ok hb 1 (by omega); have h2 := rd_ok hb 2 (by omega); have h3 := rd_ok hb 3 (by omega)
    have h4 := rd_ok hb 4 (by omega); have h5 := rd_ok hb 5 (by omega); have h6 := rd_ok hb 6 (by omega); have h7 := rd_ok hb 7 (by omega)
    rw [h8]
    have r0 := of_round (k + 8) 0 l 0 (by omega) h8 (by omega) (by omega) h0.1 h0.2
    have r1 := of_round (k + 7) _ l 1 (by omega) h8 (show 0 ≤ 0 * 256 + rd l ((0 : Nat) : Int) by omega) (by omega) h1.1 h1.2
    have r2 := of_round (k + 6) _ l 2 (by omega) h8 (show 0 ≤ (0 * 256 + rd l ((0 : Nat) : Int)) * 256 + rd l ((1 : Nat) : Int) by omega) (by omega) h2.1 h2.2
    have r3 := of_round (k + 5) _ l 3 (by omega) h8 (show 0 ≤ ((0 * 256 + rd l ((0 : Nat) : Int)) * 256 + rd l ((1 : Nat) : Int)) * 256 + rd l ((2 : Nat) : Int) by omega) (by omega) h3.1 h3.2
    have r4 := of_round (k + 4) _ l 4 (by omega) h8 (show 0 ≤ (((0 * 256 + rd l ((0 : Nat) : Int)) * 256 + rd l ((1 : Nat) : Int)) * 256 + rd l ((2 : Nat) : Int)) * 256 + rd l ((3 : Nat) : Int) by omega) (by omega) h4.1 h4.2
    have r5 := of_round (k + 3) _ l 5 (by omega) h8 (show 0 ≤ ((((0 * 256 + rd l ((0 : Nat) : Int)) * 256 + rd l ((1 : Nat) : Int)) * 256 + rd l ((2 : Nat) : Int)) * 256 + rd l ((3 : Nat) : Int)) * 256 + rd l ((4 : Nat) : Int) by omega) (by omega) h5.1 h5.2
    have r6 := of_round (k + 2) _ l 6 (by omega) h8 (show 0 ≤ (((((0 * 256 + rd l ((0 : Nat) : Int)) * 256 + rd l ((1 : Nat) : Int)) * 256 + rd l ((2 : Nat) : Int)) * 256 + rd l ((3 : Nat) : Int)) * 256 + rd l ((4 : Nat) : Int)) * 256 + rd l ((5 : Nat) : Int) by omega) (by omega) h6.1 h6.2
    have r7 := of_round (k + 1) _ l 7 (by omega) h8 (show 0 ≤ ((((((0 * 256 + rd l ((0 : Nat) : Int)) * 256 + rd l ((1 : Nat) : Int)) * 256 + rd l ((2 : Nat) : Int)) * 256 + rd l ((3 : Nat) : Int)) * 256 + rd l ((4 : Nat) : Int)) * 256 + rd l ((5 : Nat) : Int)) * 256 + rd l ((6 : Nat) : Int) by omega) (by omega) h7.1 h7.2
    refine r0.trans (r1.trans (r2.trans (r3.trans (r4.trans (r5.trans (r6.trans (r7.trans ?_)))))))
    simp only [tlv_Of.l0]
    rw [if_neg (by omega)]
    have ebe : (((((((0 * 256 + rd l ((0 : Nat) : Int)) * 256 + rd l ((1 : Nat) : Int)) * 256 + rd l ((2 : Nat) : Int)) * 256 + rd l ((3 : Nat) : Int)) * 256 + rd l ((4 : Nat) : Int)) * 256 + rd l ((5 : Nat) : Int)) * 256 + rd l ((6 : Nat) : Int)) * 256 + rd l ((7 : Nat) : Int) = be8 l := by
      unfold be8
      show _ = rd l ((0 : Nat) : Int) * 72057594037927936 + rd l ((1 : Nat) : Int) * 281474976710656 + rd l ((2 : Nat) : Int) * 1099511627776 + rd l ((3 : Nat) : Int) * 4294967296 + rd l ((4 : Nat) : Int) * 16777216 + rd l ((5 : Nat) : Int) * 65536 + rd l ((6 : Nat) : Int) * 256 + rd l ((7 : Nat) : Int)
      omega
    have hnn : 0 ≤ be8 l := by rw [← ebe]; omega
    rw [ebe]
    by_cases hg : be8 l > 9223372036854775807
    · rw [if_pos hg, if_pos hg]
    · rw [if_neg hg, if_neg hg, wrap_id (by omega) (by omega)]
  · rw [if_neg (by omega), if_neg h8]
/-- a number's eight bytes -/
def dig (u : Int) : List Int := [u / 72057594037927936 % 256, u / 281474976710656 % 256, u / 1099511627776 % 256, u / 4294967296 % 256, u / 16777216 % 256, u / 65536 % 256, u / 256 % 256, u % 256]
theorem tnumber (a : Int) (k : Nat) : tlv_Number.f (k + 9) a = some (dig (a % 18446744073709551616)) := by
  have h : tlv_Number.f (k + 9) a = some [shr .u64 (IntKind.u64.wrap a) 56 % 256, shr .u64 (IntKind.u64.wrap a) 48 % 256, shr .u64 (IntKind.u64.wrap a) 40 % 256, shr .u64 (IntKind.u64.wrap a) 32 % 256, shr .u64 (IntKind.u64.wrap a) 24 % 256, shr .u64 (IntKind.u64.wrap a) 16 % 256, shr .u64 (IntKind.u64.wrap a) 8 % 256, shr .u64 (IntKind.u64.wrap a) 0 % 256] := by kernel_rfl
  rw [h, IntKind.wrap_u64]
  simp [shr, IntKind.bits, dig]
theorem okB_dig (u : Int) : okB (dig u) := by
  intro x hx
  simp only [dig, List.mem_cons, List.not_mem_nil, or_false] at hx
  rcases hx with rfl | rfl | rfl | rfl | rfl | rfl | rfl | rfl <;> omega
theorem be8_dig (u : Int) (h0 : 0 ≤ u) (h1 : u < 18446744073709551616) : be8 (dig u) = u := by
  show u / 72057594037927936 % 256 * 72057594037927936 + u / 281474976710656 % 256 * 281474976710656 + u / 1099511627776 % 256 * 1099511627776 + u / 4294967296 % 256 * 4294967296 + u / 16777216 % 256 * 16777216 + u / 65536 % 256 * 65536 + u / 256 % 256 * 256 + u % 256 = u
  omega
end Go.Proofs.Ytkaeoeebagndaaa.Pure
