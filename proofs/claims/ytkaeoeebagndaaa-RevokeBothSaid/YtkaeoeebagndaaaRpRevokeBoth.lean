/- The plain law of lists of what is revoked: their bytes, and back. -/
import Derived.Test.YtkaeoeebagndaaaRaRevokeBoth
import Derived.Test.YtkaeoeebagndaaaTdRevokeBoth
import Derived.Test.YtkaeoeebagndaaaTeRevokeBoth
namespace Go.Proofs.Ytkaeoeebagndaaa.Pure
open Go.RowKit Go.ChangeShapes Go.WideShapes Go.Proofs.Ytkaeoeebagndaaa.PRevokeBoth Go.Proofs.YtkaeoeebagndaaaW.PrintWords Go.Proofs.YtkaeoeebagndaaaW.PrintLast Go.Proofs.YtkaeoeebagndaaaW.PrintMore
set_option linter.unusedVariables false
set_option linter.unusedSimpArgs false
def row16 (x : R) : List Int := dig (x.f0 % 18446744073709551616) ++ dig (x.f1 % 18446744073709551616)
def rdig (l : List R) : List Int := l.flatMap row16
theorem rdig_cons (x : R) (r : List R) : rdig (x :: r) = row16 x ++ rdig r := by simp [rdig]
theorem row16_len (x : R) : (row16 x).length = 16 := rfl
theorem rdig_len (l : List R) : (rdig l).length = 16 * l.length := by
  induction l with
  | nil => rfl
  | cons x r ih => rw [rdig_cons, List.length_append, ih, row16_len, List.length_cons]; omega
theorem okB_rdig (l : List R) : okB (rdig l) := by
  intro x hx
  obtain ⟨y, _, hx⟩ := List.mem_flatMap.1 hx
  rcases List.mem_append.1 hx with h | h
  · exact okB_dig _ _ h
  · exact okB_dig _ _ h
theorem rdig_drop : ∀ (l : List R) (i : Nat) (h : i < l.length), (rdig l).drop (16 * i) = row16 l[i] ++ rdig (l.drop (i + 1))
  | [], i, h => absurd h (by simp)
  | x :: r, 0, h => by rw [rdig_cons]; rfl
  | x :: r, i + 1, h => by
    have h' : i < r.length := by simpa using h
    have ih := rdig_drop r i h'
    rw [rdig_cons]
    show _ = row16 r[i] ++ rdig (r.drop (i + 1))
    rw [← ih, show 16 * (i + 1) = 16 + 16 * i by omega, ← List.drop_drop]
    rfl
theorem may_one (b : List Int) (h : b.length ≤ 65535) : may [(⟨1, b⟩ : S)] = true := by
  have : (b.length : Int) ≤ 65535 := by omega
  simp [may, mayFrom, this]
theorem pbytes_l0 (l : List R) (hl : l.length ≤ 1000) : ∀ (d i k : Nat) (x : List Int), i + d = l.length → d + 12 < k → x.length = 16 * i →
    revoke_Bytes.l0 k x l (l.length : Int) (i : Int) = some (putL [(⟨1, x ++ rdig (l.drop i)⟩ : S)], none) := by
  intro d
  induction d with
  | zero =>
    intro i k x hi hk hx
    obtain ⟨k, rfl, hk⟩ := succ_k hk
    simp only [revoke_Bytes.l0]
    rw [if_neg (by omega), List.drop_of_length_le (by omega), tput _ (by simp) k (by simp; omega)]
    simp only [putR, rdig, List.flatMap_nil, List.append_nil]
    rw [if_pos (may_one x (by omega))]
    rfl
  | succ d ih =>
    intro i k x hi hk hx
    obtain ⟨k, rfl, hk⟩ := succ_k hk
    have hlt : i < l.length := by omega
    simp only [revoke_Bytes.l0]
    obtain ⟨m, rfl⟩ : ∃ m, k = m + 9 := ⟨k - 9, by omega⟩
    rw [if_pos (by omega), if_pos (by omega), if_pos (by omega), rdR_eq l i hlt, drop_at hlt, tnumber, tnumber]
    simp only [Option.bind_some]
    rw [if_pos (by rw [hx]; simp [dig]; omega), if_pos (by rw [List.length_append, hx]; simp [dig]; omega), wrap_id (by omega) (by omega)]
    have := ih (i + 1) (m + 9) (x ++ row16 l[i]) (by omega) (by omega) (by rw [List.length_append, row16_len]; omega)
    rw [show ((i + 1 : Nat) : Int) = (i : Int) + 1 by omega] at this
    rw [rdig_cons, ← List.append_assoc x, ← this]
    simp [row16, List.append_assoc]
theorem pbytes (l : List R) (hl : l.length ≤ 9223372036854775806) (k : Nat) (hk : l.length < k) (hk2 : 400 ≤ k) : revoke_Bytes.f k l = some (if okL l = true then (putL [(⟨1, rdig l⟩ : S)], none) else ([], some 1)) := by
  unfold revoke_Bytes.f
  rw [pmay l hl k hk]
  simp only [Option.bind_some]
  by_cases h : okL l = true
  · rw [if_pos h, if_pos h]
    have l1 := ok_len h
    exact pbytes_l0 l (by omega) l.length 0 k [] (by omega) (by omega) rfl
  · rw [if_neg h, if_neg h]
theorem prow (l : List R) (ho : ∀ x, x ∈ l → 1 ≤ x.f0 ∧ x.f0 ≤ 2147483647 ∧ 0 ≤ x.f1 ∧ x.f1 ≤ 1073741824) (k : Nat) (i : Nat) (hi : i < l.length) : Go.Proofs.Ytkaeoeebagndaaa.PRevokeBoth.rowAt (k + 9) (rdig l) i = some (l[i]?) := by
  have hx := ho l[i] (List.getElem_mem hi)
  unfold Go.Proofs.Ytkaeoeebagndaaa.PRevokeBoth.rowAt
  rw [← List.drop_drop, rdig_drop l i hi]
  have e1 : (row16 l[i] ++ rdig (l.drop (i + 1))).take 8 = dig (l[i].f0 % 18446744073709551616) := rfl
  have e2 : ((row16 l[i] ++ rdig (l.drop (i + 1))).drop 8).take 8 = dig (l[i].f1 % 18446744073709551616) := rfl
  rw [e1, e2, tof _ (okB_dig _) k, tof _ (okB_dig _) k]
  have l8 : ∀ u, (dig u).length = 8 := fun _ => rfl
  rw [if_pos (l8 _), if_pos (l8 _), be8_dig _ (by omega) (by omega), be8_dig _ (by omega) (by omega), show l[i].f0 % 18446744073709551616 = l[i].f0 by omega, show l[i].f1 % 18446744073709551616 = l[i].f1 by omega, if_neg (by omega), if_neg (by omega)]
  simp [hi]
theorem map_range (l : List R) : l.map some = (List.range l.length).map (fun i => l[i]?) := by
  apply List.ext_getElem
  · simp
  · intro i h1 h2
    have h3 : i < l.length := by simpa using h1
    simp [h3]
theorem pparse (l : List R) (h : okL l = true) (k : Nat) (hk : 5000 ≤ k) : revoke_Parse.f k (putL [(⟨1, rdig l⟩ : S)]) = some (l, none) := by
  have l1 := ok_len h
  have hlen := rdig_len l
  have hm := may_one (rdig l) (by omega)
  have hp : (putL [(⟨1, rdig l⟩ : S)]).length = 3 + 16 * l.length := by rw [← hlen, putL_cons, List.length_append, enc_length]; simp [putL]
  have hok : okB (putL [(⟨1, rdig l⟩ : S)]) := by
    intro x hx
    rw [putL_cons] at hx
    rcases List.mem_append.1 hx with q | q
    · rcases List.mem_append.1 (show x ∈ [_, _, _] ++ rdig l from q) with q | q
      · simp only [List.mem_cons, List.not_mem_nil, or_false] at q
        omega
      · exact okB_rdig l x q
    · simp [putL] at q
  unfold revoke_Parse.f
  rw [tget _ k (by omega) hok (by omega), dec_put _ hm]
  simp only [getR, List.nil_append, hm, if_true, Option.bind_some]
  obtain ⟨m, rfl⟩ : ∃ m, k = m + 9 := ⟨k - 9, by omega⟩
  rw [if_pos ⟨trivial, by omega⟩, if_pos (by omega), hlen, show 16 * l.length / 16 = l.length by omega,
    rows_good (r := fun i => l[i]?) l.length l (fun i hi => prow l (ok_sorted l1.1).2 m i hi) (map_range l)]
  simp only [Option.bind_some]
  rw [pmay l (by omega) (m + 9) (by omega), h]
  rfl
end Go.Proofs.Ytkaeoeebagndaaa.Pure
