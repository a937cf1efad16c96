/- What the proof of RevokeTells is made of, part 16. -/
import Derived.Test.YtkaeoeebagndaaaZRevokeTells15
import Derived.Test.YtkaeoeebagndaaaZRevokeTells14
namespace Go.Proofs.Ytkaeoeebagndaaa.Pure
open Go.RowKit Go.ChangeShapes Go.WideShapes Go.Proofs.Ytkaeoeebagndaaa.PRevokeTells Go.Proofs.YtkaeoeebagndaaaW.PrintWords Go.Proofs.YtkaeoeebagndaaaW.PrintLast Go.Proofs.YtkaeoeebagndaaaW.PrintMore
set_option linter.unusedVariables false
set_option linter.unusedSimpArgs false
def frm (s : Int) : List R → Int
 | [] => -1
 | x :: r => if x.f0 = s then x.f1 else frm s r
theorem rfrom_l0 (l : List R) (s : Int) (hl : l.length ≤ 9223372036854775806) : ∀ (d i k : Nat), i + d = l.length → d < k → clapperref11_From.l0 k l s (i : Int) = some (frm s (l.drop i)) := by
 intro d
 induction d with
 | zero =>
  intro i k hi hk
  obtain ⟨k, rfl, hk⟩ := succ_k hk
  simp only [clapperref11_From.l0]
  rw [if_neg (by omega), List.drop_of_length_le (by omega)]
  rfl
 | succ d ih =>
  intro i k hi hk
  obtain ⟨k, rfl, hk⟩ := succ_k hk
  have hlt : i < l.length := by omega
  simp only [clapperref11_From.l0]
  rw [if_pos (by omega), if_pos (by omega), rdR_eq l i hlt, drop_at hlt]
  simp only [frm]
  by_cases h : l[i].f0 = s
  ·rw [if_pos h, if_pos h]
  ·rw [if_neg h, if_neg h, wrap_id (by omega) (by omega)]
   exact ih (i + 1) k (by omega) (by omega)
theorem frm_any (s t : Int) : ∀ (l : List R) (last : Int), okFrom last l = true → (if frm s l ≥ 0 then decide (frm s l ≤ t) else false) = l.any (isP s t) := by
 intro l
 induction l with
 | nil => intro last _; rfl
 | cons x r ih =>
  intro last h
  simp only [okFrom, Bool.and_eq_true, decide_eq_true_eq] at h
  obtain ⟨h1, h2, h3, h4, h5, h6⟩ := h
  rw [List.any_cons]
  by_cases e : x.f0 = s
  ·rw [show frm s (x :: r) = x.f1 from if_pos e, if_pos h3]
   have hr : r.any (isP s t) = false := by
    rw [List.any_eq_false]
    intro y hy hp
    have := (ok_sorted h6).1 y hy
    unfold isP at hp
    rw [Bool.and_eq_true] at hp
    have := eq_of_beq hp.1
    omega
   rw [hr, Bool.or_false]
   unfold isP
   rw [e, beq_self_eq_true, Bool.true_and]
  ·rw [show frm s (x :: r) = frm s r from if_neg e]
   have hx : isP s t x = false := by
    unfold isP
    rw [beq_eq_false_iff_ne.2 e, Bool.false_and]
   rw [hx, Bool.false_or]
   exact ih x.f0 h6
theorem ris (l : List R) (h : okL l = true) (s t : Int) (k : Nat) (hk : 300 ≤ k) : clapperref11_Is.f k l s t = some (l.any (isP s t)) := by
 have l1 := ok_len h
 have hf := rfrom_l0 l s (by omega) l.length 0 k (by omega) (by omega)
 unfold clapperref11_Is.f clapperref11_From.f
 rw [show (0 : Int) = ((0 : Nat) : Int) from rfl, hf, List.drop_zero]
 simp only [Option.bind_some]
 rw [← frm_any s t l 0 l1.1]
 by_cases h0 : frm s l ≥ ((0 : Nat) : Int)
 ·rw [if_pos h0, if_pos (show frm s l ≥ 0 from h0)]
 ·rw [if_neg h0, if_neg (show ¬ frm s l ≥ 0 from h0)]
theorem rbytes_l0 (l : List R) (hl : l.length ≤ 1000) (ho : ∀ x, x ∈ l → 1 ≤ x.f0 ∧ x.f0 ≤ 2147483647 ∧ 0 ≤ x.f1 ∧ x.f1 ≤ 1073741824) : ∀ (d i k : Nat) (x : List Int), i + d = l.length → d + 12 < k → x.length = 16 * i → okB x →
  clapperref11_Bytes.l0 k l (strOfNums x) (i : Int) = some (strOfNums (putL [(⟨1, x ++ rdig (l.drop i)⟩ : S)])) := by
 intro d
 induction d with
 | zero =>
  intro i k x hi hk hx hb
  obtain ⟨k, rfl, hk⟩ := succ_k hk
  simp only [clapperref11_Bytes.l0]
  rw [if_neg (by omega), List.drop_of_length_le (by omega), if_pos (by rw [strOfNums_size]; omega), bytes_str hb, rput _ (may_one x (by omega)) k (by simp; omega)]
  simp [rdig]
 | succ d ih =>
  intro i k x hi hk hx hb
  obtain ⟨k, rfl, hk⟩ := succ_k hk
  have hlt : i < l.length := by omega
  have hr := ho l[i] (List.getElem_mem hlt)
  simp only [clapperref11_Bytes.l0]
  obtain ⟨m, rfl⟩ : ∃ m, k = m + 9 := ⟨k - 9, by omega⟩
  rw [if_pos (by omega), if_pos (by omega), rdR_eq l i hlt, drop_at hlt, rnumber l[i].f0 (by omega) (by omega) m, rnumber l[i].f1 (by omega) (by omega) m]
  simp only [Option.bind_some]
  have l8 : ∀ u, (dig u).length = 8 := fun _ => rfl
  rw [if_pos (by rw [strOfNums_size, strOfNums_size, l8]; omega), str_append, if_pos (by rw [strOfNums_size, strOfNums_size, List.length_append, l8, l8]; omega), str_append, wrap_id (by omega) (by omega)]
  have e : row16 l[i] = dig l[i].f0 ++ dig l[i].f1 := by
   unfold row16
   rw [show l[i].f0 % 18446744073709551616 = l[i].f0 by omega, show l[i].f1 % 18446744073709551616 = l[i].f1 by omega]
  have := ih (i + 1) (m + 9) (x ++ row16 l[i]) (by omega) (by omega) (by rw [List.length_append, row16_len]; omega) (fun y hy => by
   rcases List.mem_append.1 hy with h | h
   ·exact hb y h
   ·rcases List.mem_append.1 h with h | h
    ·exact okB_dig _ _ h
    ·exact okB_dig _ _ h)
  rw [show ((i + 1 : Nat) : Int) = (i : Int) + 1 by omega] at this
  rw [rdig_cons, ← List.append_assoc x, ← this, e, List.append_assoc]
theorem rbytes (l : List R) (h : okL l = true) (k : Nat) (hk : 400 ≤ k) : clapperref11_Bytes.f k l = some (strOfNums (putL [(⟨1, rdig l⟩ : S)])) := by
 have l1 := ok_len h
 have := rbytes_l0 l (by omega) (ok_sorted l1.1).2 l.length 0 k [] (by omega) (by omega) rfl (fun x hx => by cases hx)
 exact this
/-- a row's number, as the reference tells it -/
def ofR (l : List Int) : Int := if be8 l > 9223372036854775807 then -1 else be8 l
def rowR (b : List Int) (i : Nat) : R := ⟨ofR ((b.drop (16 * i)).take 8), ofR ((b.drop (16 * i + 8)).take 8)⟩
theorem be8_nn {l : List Int} (hb : okB l) (h : l.length = 8) : 0 ≤ be8 l := by
 have h0 := rd_ok hb 0 (by omega); have h1 := rd_ok hb 1 (by omega); have h2 := rd_ok hb 2 (by omega); have h3 := rd_ok hb 3 (by omega)
 have h4 := rd_ok hb 4 (by omega); have h5 := rd_ok hb 5 (by omega); have h6 := rd_ok hb 6 (by omega); have h7 := rd_ok hb 7 (by omega)
 show 0 ≤ rd l ((0 : Nat) : Int) * 72057594037927936 + rd l ((1 : Nat) : Int) * 281474976710656 + rd l ((2 : Nat) : Int) * 1099511627776 + rd l ((3 : Nat) : Int) * 4294967296 + rd l ((4 : Nat) : Int) * 16777216 + rd l ((5 : Nat) : Int) * 65536 + rd l ((6 : Nat) : Int) * 256 + rd l ((7 : Nat) : Int)
 omega
theorem part8 {b : List Int} {i : Nat} (h : i + 8 ≤ b.length) : ((b.drop i).take 8).length = 8 := by rw [List.length_take, List.length_drop]; omega
theorem grow {b : List Int} (hb : okB b) (k i : Nat) (hi : 16 * i + 16 ≤ b.length) : Go.Proofs.Ytkaeoeebagndaaa.PRevokeTells.rowAt (k + 9) b i = some (if 0 ≤ (rowR b i).f0 ∧ 0 ≤ (rowR b i).f1 then some (rowR b i) else none) := by
 have b1 := okB_take (okB_drop hb (16 * i)) 8
 have b2 := okB_take (okB_drop hb (16 * i + 8)) 8
 have n1 := be8_nn b1 (part8 (by omega))
 have n2 := be8_nn b2 (part8 (by omega))
 unfold Go.Proofs.Ytkaeoeebagndaaa.PRevokeTells.rowAt rowR ofR
 rw [tof _ b1 k, tof _ b2 k, if_pos (part8 (by omega)), if_pos (part8 (by omega))]
 simp only [Option.bind_some]
 generalize be8 ((b.drop (16 * i)).take 8) = u at *
 generalize be8 ((b.drop (16 * i + 8)).take 8) = v at *
 by_cases hu : u > 9223372036854775807
 ·rw [if_pos hu, if_pos hu, if_neg (by simp), if_neg (by omega)]
 ·rw [if_neg hu, if_neg hu]
  by_cases hv : v > 9223372036854775807
  ·rw [if_pos hv, if_pos hv, if_neg (by simp), if_neg (by omega)]
  ·rw [if_neg hv, if_neg hv, if_pos (by simp), if_pos ⟨n1, n2⟩]
theorem rparse_l0 (b : List Int) (hb : okB b) (N : Nat) (hN : b.length = 16 * N) (hN2 : N ≤ 1000) : ∀ (d i k : Nat) (out : List R), i + d = N → out.length ≤ i → 2 * d + 3000 < k →
  clapperref11_Parse.l0 k b out ((16 * i : Nat) : Int) = some (if okL (out ++ (List.range' i d).map (rowR b)) = true then (out ++ (List.range' i d).map (rowR b), true) else ([], false)) := by
 intro d
 induction d with
 | zero =>
  intro i k out hi ho hk
  obtain ⟨k, rfl, hk⟩ := succ_k hk
  simp only [clapperref11_Parse.l0]
  rw [if_neg (by omega), rrmay out (by omega) k (by omega)]
  simp only [Option.bind_some, List.range'_zero, List.map_nil, List.append_nil]
  by_cases h : okL out = true
  ·rw [if_pos h, if_pos h]
  ·rw [if_neg h, if_neg h]
 | succ d ih =>
  intro i k out hi ho hk
  obtain ⟨k, rfl, hk⟩ := succ_k (show 2 * d + 3001 < k by omega)
  obtain ⟨m, rfl⟩ : ∃ m, k = m + 11 := ⟨k - 11, by omega⟩
  simp only [clapperref11_Parse.l0]
  have w8 : wrap64 (((16 * i : Nat) : Int) + 8) = ((16 * i + 8 : Nat) : Int) := by rw [wrap_id (by omega) (by omega)]; omega
  have w16 : wrap64 (((16 * i : Nat) : Int) + 16) = ((16 * (i + 1) : Nat) : Int) := by rw [wrap_id (by omega) (by omega)]; omega
  rw [w8, w16, if_pos (by omega), if_pos (by omega), if_pos (by omega), if_pos (by omega)]
  simp only [Int.toNat_natCast]
  have e1 : (b.take (16 * i + 8)).drop (16 * i) = (b.drop (16 * i)).take 8 := by rw [List.drop_take]; congr 1; omega
  have e2 : (b.take (16 * (i + 1))).drop (16 * i + 8) = (b.drop (16 * i + 8)).take 8 := by rw [List.drop_take]; congr 1; omega
  rw [e1, e2, rof _ (okB_take (okB_drop hb _) 8) m, rof _ (okB_take (okB_drop hb _) 8) m, if_pos (part8 (by omega)), if_pos (part8 (by omega))]
  simp only [Option.bind_some]
  rw [if_pos (by omega), if_pos (by omega), if_pos (by omega), if_pos (by omega)]
  have := ih (i + 1) (m + 11) (out ++ [rowR b i]) (by omega) (by rw [List.length_append, List.length_singleton]; omega) (by omega)
  rw [List.append_assoc] at this
  rw [List.range'_succ, List.map_cons]
  exact this
theorem pp_err {b : List Int} {k : Nat} {fl : List S} {e : Int} (h : tlv_Get.f k b = some (fl, some e)) : revoke_Parse.f k b = some ([], some 2) := by
 unfold revoke_Parse.f
 rw [h]
 rfl
theorem pp_len {b : List Int} {k : Nat} {fl : List S} (h : tlv_Get.f k b = some (fl, none)) (hl : fl.length ≠ 1) : revoke_Parse.f k b = some ([], some 2) := by
 unfold revoke_Parse.f
 rw [h]
 match fl, hl with
 | [], _ => rfl
 | _ :: _ :: _, _ => rfl
 | [_], hl => exact absurd rfl hl
theorem pp_no {b : List Int} {k : Nat} {x : S} (h : tlv_Get.f k b = some ([x], none)) (hx : ¬ (x.f0 = 1 ∧ x.f1.length % 16 = 0)) : revoke_Parse.f k b = some ([], some 2) := by
 unfold revoke_Parse.f
 rw [h]
 exact if_neg hx
theorem pp_go {b : List Int} {k : Nat} {x : S} (h : tlv_Get.f k b = some ([x], none)) (hx : x.f0 = 1 ∧ x.f1.length % 16 = 0) (hl : x.f1.length ≤ 100000) :
  revoke_Parse.f k b = (rowsAt k x.f1 (x.f1.length / 16)).bind fun o => match o with
   | none => some (([], some 2) : List R × Option Int)
   | some out => (revoke_May.f k out).bind fun t => if t = true then some (out, none) else some ([], some 2) := by
 unfold revoke_Parse.f
 rw [h]
 exact (if_pos hx).trans (if_pos hl)
theorem pp_none {b : List Int} {k : Nat} {x : S} (h : tlv_Get.f k b = some ([x], none)) (hx : x.f0 = 1 ∧ x.f1.length % 16 = 0) (hl : x.f1.length ≤ 100000) (ho : rowsAt k x.f1 (x.f1.length / 16) = some none) : revoke_Parse.f k b = some ([], some 2) := by
 rw [pp_go h hx hl, ho]
 rfl
theorem pp_ok {b : List Int} {k : Nat} {x : S} {L : List R} (h : tlv_Get.f k b = some ([x], none)) (hx : x.f0 = 1 ∧ x.f1.length % 16 = 0) (hl : x.f1.length ≤ 100000) (ho : rowsAt k x.f1 (x.f1.length / 16) = some (some L)) (hm : revoke_May.f k L = some true) : revoke_Parse.f k b = some (L, none) := by
 rw [pp_go h hx hl, ho]
 show (revoke_May.f k L).bind _ = _
 rw [hm]
 rfl
theorem pp_bad {b : List Int} {k : Nat} {x : S} {L : List R} (h : tlv_Get.f k b = some ([x], none)) (hx : x.f0 = 1 ∧ x.f1.length % 16 = 0) (hl : x.f1.length ≤ 100000) (ho : rowsAt k x.f1 (x.f1.length / 16) = some (some L)) (hm : revoke_May.f k L = some false) : revoke_Parse.f k b = some ([], some 2) := by
 rw [pp_go h hx hl, ho]
 show (revoke_May.f k L).bind _ = _
 rw [hm]
 rfl
theorem rp_err {b : List Int} {k : Nat} {fl : List S} (h : clapperref08_Get.f (k + 1) b = some (fl, false)) : clapperref11_Parse.f (k + 1) b = some ([], false) := by
 unfold clapperref11_Parse.f
 rw [h, Option.bind_some, if_neg (by simp), clapperref11_Parse.j0, if_pos rfl]
theorem rp_len {b : List Int} {k : Nat} {fl : List S} (h : clapperref08_Get.f (k + 1) b = some (fl, true)) (hl : fl.length ≠ 1) : clapperref11_Parse.f (k + 1) b = some ([], false) := by
 unfold clapperref11_Parse.f
 rw [h, Option.bind_some, if_pos rfl, if_neg (show ¬ ((fl.length : Int) = 1) by omega), clapperref11_Parse.j0, if_pos rfl]
theorem rp_no {b : List Int} {k : Nat} {x : S} (h : clapperref08_Get.f (k + 1) b = some ([x], true)) (hx : ¬ (x.f0 = 1 ∧ x.f1.length % 16 = 0)) : clapperref11_Parse.f (k + 1) b = some ([], false) := by
 unfold clapperref11_Parse.f
 have h0 : rd_T48 [x] 0 = x := rfl
 rw [h, Option.bind_some, if_pos rfl, if_pos (by simp), if_pos (by simp), h0]
 by_cases h1 : x.f0 = 1
 ·have h2 : (((x.f1.length : Int) % 16) != 0) = true := by
   have : x.f1.length % 16 ≠ 0 := fun q => hx ⟨h1, q⟩
   simp
   omega
  rw [if_pos h1, h2, clapperref11_Parse.j0, if_pos rfl]
 ·rw [if_neg h1, clapperref11_Parse.j0, if_pos rfl]
theorem rp_one {b : List Int} {k : Nat} {x : S} (h : clapperref08_Get.f (k + 1) b = some ([x], true)) (h1 : x.f0 = 1) (h2 : x.f1.length % 16 = 0) : clapperref11_Parse.f (k + 1) b = clapperref11_Parse.l0 k x.f1 [] 0 := by
 unfold clapperref11_Parse.f
 have h0 : rd_T48 [x] 0 = x := rfl
 have h3 : (((x.f1.length : Int) % 16) != 0) = false := by
  simp
  omega
 rw [h, Option.bind_some, if_pos rfl, if_pos (by simp), if_pos (by simp), h0, if_pos h1, h3, clapperref11_Parse.j0, if_neg (by simp), if_pos (by simp), h0]
theorem parse_both (b : List Int) (hb : okB b) (hl : b.length ≤ 8000) (k : Nat) (hk : 200000 ≤ k) :
  (∃ L : List R, L.length ≤ 200 ∧ revoke_Parse.f k b = some (L, none) ∧ clapperref11_Parse.f k b = some (L, true)) ∨ (revoke_Parse.f k b = some ([], some 2) ∧ clapperref11_Parse.f k b = some ([], false)) := by
 obtain ⟨k, rfl, hk2⟩ := succ_k (show 199999 < k by omega)
 have hp := tget b (k + 1) (by omega) hb (by omega)
 have hr := rget b hb (by omega) (k + 1) (by omega)
 cases hd : dec b with
 | none =>
  rw [hd] at hp hr
  exact .inr ⟨pp_err hp, rp_err hr⟩
 | some fs =>
  rw [hd] at hp hr
  simp only [getR, rgetR, List.nil_append] at hp hr
  by_cases hm : may fs = true
  ·rw [if_pos hm] at hp hr
   by_cases hf : fs.length = 1
   ·obtain ⟨x, rfl⟩ := List.length_eq_one_iff.1 hf
    by_cases hx : x.f0 = 1 ∧ x.f1.length % 16 = 0
    ·have hxb : putL [x] = b := put_parse _ _ _ hb hd
     have hlen : 3 + x.f1.length = b.length := by rw [← hxb, putL_cons, List.length_append, enc_length]; simp [putL]
     have hxo : okB x.f1 := fun y hy => hb y (by rw [← hxb, putL_cons]; exact List.mem_append.2 (.inl (List.mem_append.2 (.inr hy))))
     obtain ⟨N, hN⟩ : ∃ N, x.f1.length = 16 * N := ⟨x.f1.length / 16, by omega⟩
     have hN2 : x.f1.length / 16 = N := by omega
     have hl0 := rparse_l0 x.f1 hxo N hN (by omega) N 0 k [] (by omega) (by simp) (by omega)
     rw [show ((16 * 0 : Nat) : Int) = 0 from rfl, List.nil_append] at hl0
     have hR := (rp_one hr hx.1 hx.2).trans hl0
     have hrow : ∀ i, i < N → Go.Proofs.Ytkaeoeebagndaaa.PRevokeTells.rowAt (k + 1) x.f1 i = some (if 0 ≤ (rowR x.f1 i).f0 ∧ 0 ≤ (rowR x.f1 i).f1 then some (rowR x.f1 i) else none) := fun i hi => by
      obtain ⟨m, hm⟩ : ∃ m, k + 1 = m + 9 := ⟨k - 8, by omega⟩
      rw [hm]
      exact grow hxo m i (by omega)
     have hLl : ((List.range' 0 N).map (rowR x.f1)).length = N := by simp
     have hrr : (∀ i, i < N → 0 ≤ (rowR x.f1 i).f0 ∧ 0 ≤ (rowR x.f1 i).f1) → rowsAt (k + 1) x.f1 (x.f1.length / 16) = some (some ((List.range' 0 N).map (rowR x.f1))) := fun hall => by
      rw [hN2]
      refine rows_good (r := fun i => if 0 ≤ (rowR x.f1 i).f0 ∧ 0 ≤ (rowR x.f1 i).f1 then some (rowR x.f1 i) else none) N _ hrow ?_
      rw [← List.range_eq_range', List.map_map]
      apply List.map_congr_left
      intro i hi
      show some (rowR x.f1 i) = _
      rw [if_pos (hall i (by simpa using hi))]
     by_cases hok : okL ((List.range' 0 N).map (rowR x.f1)) = true
     ·have l1 := ok_len hok
      have hall : ∀ i, i < N → 0 ≤ (rowR x.f1 i).f0 ∧ 0 ≤ (rowR x.f1 i).f1 := fun i hi => by
       have := (ok_sorted l1.1).2 (rowR x.f1 i) (List.mem_map.2 ⟨i, by simp; omega, rfl⟩)
       omega
      rw [if_pos hok] at hR
      exact .inl ⟨_, l1.2, pp_ok hp hx (by omega) (hrr hall) (by rw [pmay _ (by omega) (k + 1) (by omega), hok]), hR⟩
     ·rw [if_neg hok] at hR
      refine .inr ⟨?_, hR⟩
      by_cases hall : ∀ i, i < N → 0 ≤ (rowR x.f1 i).f0 ∧ 0 ≤ (rowR x.f1 i).f1
      ·exact pp_bad hp hx (by omega) (hrr hall) (by rw [pmay _ (by omega) (k + 1) (by omega)]; simpa using hok)
      ·obtain ⟨i, hi⟩ := Classical.not_forall.1 hall
       obtain ⟨hi, hb'⟩ := Classical.not_imp.1 hi
       exact pp_none hp hx (by omega) (by rw [hN2]; exact rows_none (r := fun i => if 0 ≤ (rowR x.f1 i).f0 ∧ 0 ≤ (rowR x.f1 i).f1 then some (rowR x.f1 i) else none) (i := i) (if_neg hb') N hrow hi)
    ·exact .inr ⟨pp_no hp hx, rp_no hr hx⟩
   ·exact .inr ⟨pp_len hp hf, rp_len hr hf⟩
  ·rw [if_neg hm] at hp hr
   exact .inr ⟨pp_err hp, rp_err hr⟩
end Go.Proofs.Ytkaeoeebagndaaa.Pure
namespace Go.Proofs.Ytkaeoeebagndaaa.Pure
open Go.RowKit Go.ChangeShapes Go.WideShapes Go.Proofs.Ytkaeoeebagndaaa.PRevokeTells Go.Proofs.YtkaeoeebagndaaaW.PrintWords Go.Proofs.YtkaeoeebagndaaaW.PrintLast Go.Proofs.YtkaeoeebagndaaaW.PrintMore
set_option linter.unusedVariables false
set_option linter.unusedSimpArgs false
theorem pis (l : List R) (hl : l.length ≤ 9223372036854775806) (s t : Int) (k : Nat) (hk : l.length < k) : revoke_Is.f k l s t = some (okL l && l.any (isP s t)) := by
 unfold revoke_Is.f
 rw [pmay l hl k hk]
 simp only [Option.bind_some]
 cases okL l <;> simp
theorem tells_j2 (b : List Int) (hb : okB b) (hl : b.length ≤ 8000) (k : Nat) (hk : 200000 ≤ k) : clapperlaw11_RevokeTells.j2 (k + 1) b true false = some true := by
 rw [clapperlaw11_RevokeTells.j2, if_neg (by simp)]
 rcases parse_both b hb hl k hk with ⟨L, h0, h1, h2⟩ | ⟨h1, h2⟩
 ·rw [h1, Option.bind_some, h2, Option.bind_some, if_pos rfl, if_pos rfl, if_pos (show (none : Option Int).isNone = true from rfl), rsame L (by omega) k (by omega)]
  rfl
 ·rw [h1, Option.bind_some, h2, Option.bind_some, if_neg (by simp), if_pos rfl, if_neg (by simp)]
  rfl
theorem RevokeTells (l0 : List S43) (hm0 : l0.length ≤ maxLen) (hw0 : ∀ x, x ∈ l0 → (fun x => (Lit.int .i64 x.f0).wf = true ∧ (Lit.int .i64 x.f1).wf = true) x) (a1 : Int) (w1 : (Lit.int .i64 a1).wf = true) (a2 : Int) (w2 : (Lit.int .i64 a2).wf = true) (l3 : List Int) (hm3 : l3.length ≤ maxLen) (hw3 : ∀ x, x ∈ l3 → (fun n => (Lit.int .u8 n).wf = true) x) : ∃ k, clapperlaw11_RevokeTells.f k l0 a1 a2 l3 = some true := by
 obtain ⟨k, hk⟩ : ∃ k : Nat, 500000 ≤ k := ⟨500000, Nat.le_refl _⟩
 refine ⟨k + 3, ?_⟩
 have hb := okB_of hw3
 unfold clapperlaw11_RevokeTells.f
 rw [up_ok _ (by omega)]
 simp only [Option.bind_some]
 by_cases h3 : (l0.length : Int) > 300
 ·rw [if_pos h3, clapperlaw11_RevokeTells.j0, if_pos rfl]
 rw [if_neg h3]
 by_cases h4 : (l3.length : Int) > 8000
 ·rw [decide_eq_true h4, clapperlaw11_RevokeTells.j0, if_pos rfl]
 have hj := tells_j2 l3 hb (by omega) k (by omega)
 rw [decide_eq_false h4, clapperlaw11_RevokeTells.j0, if_neg (by simp), rrmay l0 (by omega) (k + 2) (by omega), Option.bind_some]
 by_cases h0 : okL l0 = true
 ·rw [if_pos h0, ris l0 h0 a1 a2 (k + 2) (by omega), Option.bind_some, clapperlaw11_RevokeTells.j1, pbytes l0 (by omega) (k + 1) (by omega) (by omega), Option.bind_some, pmay l0 (by omega) (k + 1) (by omega), Option.bind_some,
   if_neg (by simp), pis l0 (by omega) a1 a2 (k + 1) (by omega), Option.bind_some, h0, Bool.true_and, if_neg (by simp), if_pos rfl, if_pos rfl, if_pos (show (none : Option Int).isNone = true from rfl), rbytes l0 h0 (k + 1) (by omega), Option.bind_some, if_pos rfl]
  exact hj
 ·have h0' : okL l0 = false := by simpa using h0
  have hB : revoke_Bytes.f (k + 1) l0 = some ([], some 1) := by rw [pbytes l0 (by omega) (k + 1) (by omega) (by omega), if_neg h0]
  have hM : revoke_May.f (k + 1) l0 = some false := by rw [pmay l0 (by omega) (k + 1) (by omega), h0']
  have hI : revoke_Is.f (k + 1) l0 a1 a2 = some false := by rw [pis l0 (by omega) a1 a2 (k + 1) (by omega), h0', Bool.false_and]
  rw [if_neg h0, h0', clapperlaw11_RevokeTells.j1, hB, Option.bind_some, hM, Option.bind_some, if_neg (by simp), hI, Option.bind_some, if_neg (by simp), if_neg (by simp), if_neg (by simp)]
  exact (if_pos rfl).trans hj
end Go.Proofs.Ytkaeoeebagndaaa.Pure
