/- What the proof of RevokeTells is made of, part 15. -/
import Derived.Test.YtkaeoeebagndaaaZRevokeTells12
import Derived.Test.YtkaeoeebagndaaaZRevokeTells11
import Derived.OpenShut
import Derived.Laws.Bits64
import Derived.Laws.BitsAllLaws
namespace Go.Proofs.Ytkaeoeebagndaaa.Pure
open Go.RowKit Go.ChangeShapes Go.WideShapes Go.Proofs.Ytkaeoeebagndaaa.PRevokeTells Go.Proofs.YtkaeoeebagndaaaW.PrintWords Go.Proofs.YtkaeoeebagndaaaW.PrintLast Go.Proofs.YtkaeoeebagndaaaW.PrintMore
set_option linter.unusedVariables false
set_option linter.unusedSimpArgs false
abbrev R := S43
theorem wrap_id {n : Int} (h0 : -9223372036854775808 ≤ n) (h1 : n ≤ 9223372036854775807) : wrap64 n = n := by unfold wrap64; omega
theorem rdR_eq (l : List R) (i : Nat) (h : i < l.length) : rd_T43 l (i : Int) = l[i] := by
 show l.getD ((i : Int)).toNat _ = _
 simp [List.getD, h]
theorem succ_k {k n : Nat} (h : n < k) : ∃ m, k = m + 1 ∧ n ≤ m := ⟨k - 1, by omega, by omega⟩
theorem drop_at {α : Type} {l : List α} {i : Nat} (h : i < l.length) : l.drop i = l[i] :: l.drop (i + 1) := List.drop_eq_getElem_cons h
def okFrom : Int → List R → Bool
 | _, [] => true
 | last, x :: r => decide (1 ≤ x.f0) && (decide (x.f0 ≤ 2147483647) && (decide (0 ≤ x.f1) && (decide (x.f1 ≤ 1073741824) && (decide (last < x.f0) && okFrom x.f0 r))))
def okL (l : List R) : Bool := okFrom 0 l && decide ((l.length : Int) ≤ 200)
theorem pmay_l0 (l : List R) (hl : l.length ≤ 9223372036854775806) : ∀ (d i k : Nat) (last : Int) (hi : i + d = l.length), d < k → (i = 0 → last = 0) → (∀ h : 0 < i, 1 ≤ last ∧ last = (l[i - 1]'(by omega)).f0) →
  revoke_May.l0 k l l (l.length : Int) (i : Int) = some (okFrom last (l.drop i) && decide ((l.length : Int) ≤ 200)) := by
 intro d
 induction d with
 | zero =>
  intro i k last hi hk _ _
  obtain ⟨k, rfl, hk⟩ := succ_k hk
  simp only [revoke_May.l0]
  rw [if_neg (by omega), List.drop_of_length_le (by omega)]
  simp [okFrom]
 | succ d ih =>
  intro i k last hi hk h0 hp
  obtain ⟨k, rfl, hk⟩ := succ_k hk
  have hlt : i < l.length := by omega
  simp only [revoke_May.l0]
  rw [if_pos (by omega), if_pos (by omega), if_pos (by omega), rdR_eq l i hlt, drop_at hlt]
  simp only [okFrom]
  by_cases h1 : l[i].f0 < 1
  ·rw [if_pos h1]; simp [show ¬ 1 ≤ l[i].f0 by omega]
  rw [if_neg h1]
  by_cases h2 : l[i].f0 > 2147483647
  ·rw [if_pos h2]; simp [show ¬ l[i].f0 ≤ 2147483647 by omega]
  rw [if_neg h2]
  by_cases h3 : l[i].f1 < 0
  ·rw [if_pos h3]; simp [show ¬ 0 ≤ l[i].f1 by omega]
  rw [if_neg h3]
  by_cases h4 : l[i].f1 > 1073741824
  ·rw [if_pos h4]; simp [show ¬ l[i].f1 ≤ 1073741824 by omega]
  rw [if_neg h4]
  have next : last < l[i].f0 → revoke_May.l0 k l l (l.length : Int) (wrap64 ((i : Int) + 1)) = some (okFrom l[i].f0 (l.drop (i + 1)) && decide ((l.length : Int) ≤ 200)) := by
   intro hlt2
   rw [wrap_id (by omega) (by omega)]
   exact ih (i + 1) k l[i].f0 (by omega) (by omega) (fun h => by omega) (fun h => ⟨by omega, by simp⟩)
  by_cases hi0 : (i : Int) > 0
  ·have hpos : 0 < i := by omega
   obtain ⟨hp1, hp2⟩ := hp hpos
   have e : wrap64 ((i : Int) - 1) = ((i - 1 : Nat) : Int) := by rw [wrap_id (by omega) (by omega)]; omega
   rw [if_pos hi0, e, if_pos (by omega), if_pos (by omega), rdR_eq l (i - 1) (by omega), ← hp2]
   by_cases h5 : last ≥ l[i].f0
   ·rw [if_pos h5]; simp [show ¬ last < l[i].f0 by omega]
   ·rw [if_neg h5, next (by omega)]
    simp [show 1 ≤ l[i].f0 by omega, show l[i].f0 ≤ 2147483647 by omega, show 0 ≤ l[i].f1 by omega, show l[i].f1 ≤ 1073741824 by omega, show last < l[i].f0 by omega]
  ·have hz := h0 (by omega)
   rw [if_neg hi0, next (by omega)]
   simp [show 1 ≤ l[i].f0 by omega, show l[i].f0 ≤ 2147483647 by omega, show 0 ≤ l[i].f1 by omega, show l[i].f1 ≤ 1073741824 by omega, show last < l[i].f0 by omega]
theorem pmay (l : List R) (hl : l.length ≤ 9223372036854775806) (k : Nat) (hk : l.length < k) : revoke_May.f k l = some (okL l) := by
 have := pmay_l0 l hl l.length 0 k 0 (by omega) hk (fun _ => rfl) (fun h => absurd h (Nat.lt_irrefl 0))
 simpa [revoke_May.f, okL] using this
theorem ok_sorted : ∀ {l : List R} {last : Int}, okFrom last l = true → (∀ x, x ∈ l → last < x.f0) ∧ (∀ x, x ∈ l → 1 ≤ x.f0 ∧ x.f0 ≤ 2147483647 ∧ 0 ≤ x.f1 ∧ x.f1 ≤ 1073741824) := by
 intro l
 induction l with
 | nil => intro last _; exact ⟨fun x h => (by cases h), fun x h => (by cases h)⟩
 | cons y r ih =>
  intro last h
  simp only [okFrom, Bool.and_eq_true, decide_eq_true_eq] at h
  obtain ⟨i1, i2⟩ := ih h.2.2.2.2.2
  refine ⟨fun x hx => ?_, fun x hx => ?_⟩
  ·rcases List.mem_cons.1 hx with rfl | hx
   ·omega
   ·have := i1 x hx; omega
  ·rcases List.mem_cons.1 hx with rfl | hx
   ·omega
   ·exact i2 x hx
theorem ok_len {l : List R} (h : okL l = true) : okFrom 0 l = true ∧ l.length ≤ 200 := by
 have : okFrom 0 l = true ∧ (l.length : Int) ≤ 200 := by simpa [okL] using h
 exact ⟨this.1, by omega⟩
theorem rsame_l0 (l : List R) (hl : l.length ≤ 9223372036854775806) : ∀ (d i k : Nat), i + d = l.length → d < k → clapperref11_Same.l0 k l l (i : Int) = some true := by
 intro d
 induction d with
 | zero =>
  intro i k hi hk
  obtain ⟨k, rfl, hk⟩ := succ_k hk
  simp only [clapperref11_Same.l0]
  rw [if_neg (by omega)]
 | succ d ih =>
  intro i k hi hk
  obtain ⟨k, rfl, hk⟩ := succ_k hk
  simp only [clapperref11_Same.l0]
  rw [if_pos (by omega), if_pos (by omega), if_pos (by omega), if_neg (by simp), wrap_id (by omega) (by omega)]
  exact ih (i + 1) k (by omega) (by omega)
theorem rsame (l : List R) (hl : l.length ≤ 9223372036854775806) (k : Nat) (hk : l.length < k) : clapperref11_Same.f k l l = some true := by
 unfold clapperref11_Same.f
 rw [if_pos rfl]
 exact rsame_l0 l hl l.length 0 k (by omega) hk
theorem up_ok (k : Nat) (hk : 5 ≤ k) : clapperlaw11_up.f k = some true := by
 unfold clapperlaw11_up.f revoke_Is.f
 simp only [Option.bind_some]
 rw [pmay _ (by simp) k (by simp; omega)]
 rfl
theorem rrmay_l0 (l : List R) (hl : l.length ≤ 9223372036854775806) : ∀ (d i k : Nat) (last : Int) (hi : i + d = l.length), d < k → (i = 0 → last = 0) → (∀ h : 0 < i, 1 ≤ last ∧ last = (l[i - 1]'(by omega)).f0) →
  clapperref11_May.l0 k l (i : Int) = some (okFrom last (l.drop i) && decide ((l.length : Int) ≤ 200)) := by
 intro d
 induction d with
 | zero =>
  intro i k last hi hk _ _
  obtain ⟨k, rfl, hk⟩ := succ_k hk
  simp only [clapperref11_May.l0]
  rw [if_neg (by omega), List.drop_of_length_le (by omega)]
  simp [okFrom]
 | succ d ih =>
  intro i k last hi hk h0 hp
  obtain ⟨k, rfl, hk⟩ := succ_k hk
  have hlt : i < l.length := by omega
  simp only [clapperref11_May.l0]
  rw [if_pos (by omega), if_pos (by omega), rdR_eq l i hlt, drop_at hlt]
  simp only [okFrom]
  by_cases h1 : l[i].f0 < 1
  ·rw [if_pos h1]; simp [show ¬ 1 ≤ l[i].f0 by omega]
  rw [if_neg h1]
  by_cases h2 : l[i].f0 > 2147483647
  ·rw [if_pos h2]; simp [show ¬ l[i].f0 ≤ 2147483647 by omega]
  rw [if_neg h2]
  by_cases h3 : l[i].f1 < 0
  ·rw [if_pos h3]; simp [show ¬ 0 ≤ l[i].f1 by omega]
  rw [if_neg h3]
  by_cases h4 : l[i].f1 > 1073741824
  ·rw [if_pos h4]; simp [show ¬ l[i].f1 ≤ 1073741824 by omega]
  rw [if_neg h4]
  have next : last < l[i].f0 → clapperref11_May.l0 k l (wrap64 ((i : Int) + 1)) = some (okFrom l[i].f0 (l.drop (i + 1)) && decide ((l.length : Int) ≤ 200)) := by
   intro hlt2
   rw [wrap_id (by omega) (by omega)]
   exact ih (i + 1) k l[i].f0 (by omega) (by omega) (fun h => by omega) (fun h => ⟨by omega, by simp⟩)
  by_cases hi0 : (i : Int) > 0
  ·have hpos : 0 < i := by omega
   obtain ⟨hp1, hp2⟩ := hp hpos
   have e : wrap64 ((i : Int) - 1) = ((i - 1 : Nat) : Int) := by rw [wrap_id (by omega) (by omega)]; omega
   rw [if_pos hi0, e, if_pos (by omega), if_pos (by omega), rdR_eq l (i - 1) (by omega), ← hp2]
   by_cases h5 : l[i].f0 ≤ last
   ·rw [if_pos h5]; simp [show ¬ last < l[i].f0 by omega]
   ·rw [if_neg h5, next (by omega)]
    simp [show 1 ≤ l[i].f0 by omega, show l[i].f0 ≤ 2147483647 by omega, show 0 ≤ l[i].f1 by omega, show l[i].f1 ≤ 1073741824 by omega, show last < l[i].f0 by omega]
  ·have hz := h0 (by omega)
   rw [if_neg hi0, next (by omega)]
   simp [show 1 ≤ l[i].f0 by omega, show l[i].f0 ≤ 2147483647 by omega, show 0 ≤ l[i].f1 by omega, show l[i].f1 ≤ 1073741824 by omega, show last < l[i].f0 by omega]
theorem rrmay (l : List R) (hl : l.length ≤ 9223372036854775806) (k : Nat) (hk : l.length < k) : clapperref11_May.f k l = some (okL l) := by
 have := rrmay_l0 l hl l.length 0 k 0 (by omega) hk (fun _ => rfl) (fun h => absurd h (Nat.lt_irrefl 0))
 simpa [clapperref11_May.f, okL] using this
end Go.Proofs.Ytkaeoeebagndaaa.Pure
namespace Go.Proofs.Ytkaeoeebagndaaa.Pure
open Go.RowKit Go.ChangeShapes Go.WideShapes Go.Proofs.Ytkaeoeebagndaaa.PRevokeTells Go.Proofs.YtkaeoeebagndaaaW.PrintWords Go.Proofs.YtkaeoeebagndaaaW.PrintLast
set_option linter.unusedVariables false
set_option linter.unusedSimpArgs false
abbrev S := S48
theorem rdS_eq (l : List S) (i : Nat) (h : i < l.length) : rd_T48 l (i : Int) = l[i] := by
 show l.getD ((i : Int)).toNat _ = _
 simp [List.getD, h]
/-- fields above a tag -/
def mayFrom : Int → List S → Bool
 | _, [] => true
 | last, f :: r => decide (last < f.f0) && decide (f.f0 ≤ 255) && decide ((f.f1.length : Int) ≤ 65535) && mayFrom f.f0 r
def may (l : List S) : Bool := mayFrom 0 l && decide ((l.length : Int) ≤ 64)
theorem tmay_l0 (l : List S) (hl : l.length ≤ 9223372036854775806) : ∀ (d i k : Nat) (last : Int), i + d = l.length → d < k →
  tlv_May.l0 k l last l (l.length : Int) (i : Int) = some (mayFrom last (l.drop i) && decide ((l.length : Int) ≤ 64)) := by
 intro d
 induction d with
 | zero =>
  intro i k last hi hk
  obtain ⟨k, rfl, hk⟩ := succ_k hk
  simp only [tlv_May.l0]
  rw [if_neg (by omega), List.drop_of_length_le (by omega)]
  simp [mayFrom]
 | succ d ih =>
  intro i k last hi hk
  obtain ⟨k, rfl, hk⟩ := succ_k hk
  have hlt : i < l.length := by omega
  simp only [tlv_May.l0]
  rw [if_pos (by omega), if_pos (by omega), if_pos (by omega), rdS_eq l i hlt, drop_at hlt]
  simp only [mayFrom]
  by_cases h1 : l[i].f0 ≤ last
  ·rw [if_pos h1]; simp [show ¬ last < l[i].f0 by omega]
  rw [if_neg h1]
  by_cases h2 : l[i].f0 > 255
  ·rw [if_pos h2]; simp [show ¬ l[i].f0 ≤ 255 by omega]
  rw [if_neg h2]
  by_cases h3 : (l[i].f1.length : Int) > 65535
  ·rw [if_pos h3]; simp [show ¬ (l[i].f1.length : Int) ≤ 65535 by omega, show ¬ l[i].f1.length ≤ 65535 by omega]
  rw [if_neg h3, wrap_id (by omega) (by omega)]
  have := ih (i + 1) k l[i].f0 (by omega) (by omega)
  rw [show ((i + 1 : Nat) : Int) = (i : Int) + 1 by omega] at this
  rw [this]
  simp [show last < l[i].f0 by omega, show l[i].f0 ≤ 255 by omega, show (l[i].f1.length : Int) ≤ 65535 by omega]
theorem tmay (l : List S) (hl : l.length ≤ 9223372036854775806) (k : Nat) (hk : l.length < k) : tlv_May.f k l = some (may l) := by
 have := tmay_l0 l hl l.length 0 k 0 (by omega) hk
 simpa [tlv_May.f, may] using this
def enc (f : S) : List Int := [f.f0 % 256, ((f.f1.length : Int) / 256) % 256, (f.f1.length : Int) % 256] ++ f.f1
def putL (l : List S) : List Int := l.flatMap enc
theorem putL_cons (f : S) (r : List S) : putL (f :: r) = enc f ++ putL r := by simp [putL]
theorem enc_length (f : S) : (enc f).length = 3 + f.f1.length := by simp [enc]; omega
theorem may_len {last : Int} {l : List S} (h : mayFrom last l = true) : ∀ f, f ∈ l → f.f1.length ≤ 65535 ∧ last < f.f0 ∧ f.f0 ≤ 255 := by
 induction l generalizing last with
 | nil => intro f hf; cases hf
 | cons g r ih =>
  simp only [mayFrom, Bool.and_eq_true, decide_eq_true_eq] at h
  intro f hf
  rcases List.mem_cons.1 hf with rfl | hf
  ·exact ⟨by omega, h.1.1.1, h.1.1.2⟩
  ·have := ih h.2 f hf
   exact ⟨this.1, by omega, this.2.2⟩
theorem tput_l0 (l : List S) (hl : l.length ≤ 64) (hm : ∀ f, f ∈ l → f.f1.length ≤ 65535) : ∀ (d i k : Nat) (x : List Int), i + d = l.length → d < k → x.length ≤ i * 65538 →
  tlv_Put.l0 k x l (l.length : Int) (i : Int) = some (x ++ putL (l.drop i), none) := by
 intro d
 induction d with
 | zero =>
  intro i k x hi hk hx
  obtain ⟨k, rfl, hk⟩ := succ_k hk
  simp only [tlv_Put.l0]
  rw [if_neg (by omega), List.drop_of_length_le (by omega)]
  simp [putL]
 | succ d ih =>
  intro i k x hi hk hx
  obtain ⟨k, rfl, hk⟩ := succ_k hk
  have hlt : i < l.length := by omega
  have hm1 := hm l[i] (List.getElem_mem hlt)
  simp only [tlv_Put.l0]
  rw [if_pos (by omega), if_pos (by omega), if_pos (by omega), rdS_eq l i hlt, drop_at hlt]
  simp only [Option.bind_some]
  rw [if_pos (by simp; omega), if_pos (by simp; omega), wrap_id (by omega) (by omega)]
  have := ih (i + 1) k (x ++ enc l[i]) (by omega) (by omega) (by rw [List.length_append, enc_length]; omega)
  rw [show ((i + 1 : Nat) : Int) = (i : Int) + 1 by omega] at this
  rw [putL_cons, ← List.append_assoc, ← this]
  simp [enc, List.append_assoc]
def putR (l : List S) : List Int × Option Int := if may l = true then (putL l, none) else ([], some 1)
theorem tput (l : List S) (hl : l.length ≤ 9223372036854775806) (k : Nat) (hk : l.length < k) : tlv_Put.f k l = some (putR l) := by
 unfold tlv_Put.f putR
 rw [tmay l hl k hk]
 simp only [Option.bind_some]
 by_cases hm : may l = true
 ·rw [if_pos hm, if_pos hm]
  have h1 : mayFrom 0 l = true ∧ (l.length : Int) ≤ 64 := by simpa [may] using hm
  have := tput_l0 l (by omega) (fun f hf => (may_len h1.1 f hf).1) l.length 0 k [] (by omega) hk (by simp)
  simpa using this
 ·rw [if_neg hm, if_neg hm]
/-- the fields of bytes -/
def parse : Nat → List Int → Option (List S)
 | 0, _ => none
 | n + 1, b => match b with
  | [] => some []
  | [_] => none
  | [_, _] => none
  | t :: h :: l :: r => if (h * 256 + l).toNat ≤ r.length then (parse n (r.drop (h * 256 + l).toNat)).map (⟨t, r.take (h * 256 + l).toNat⟩ :: ·) else none
def getR (out : List S) : Option (List S) → List S × Option Int
 | none => ([], some 2)
 | some r => if may (out ++ r) = true then (out ++ r, none) else ([], some 2)
def okB (b : List Int) : Prop := ∀ x, x ∈ b → 0 ≤ x ∧ x < 256
theorem okB_drop {b : List Int} (h : okB b) (n : Nat) : okB (b.drop n) := fun x hx => h x (List.mem_of_mem_drop hx)
theorem okB_take {b : List Int} (h : okB b) (n : Nat) : okB (b.take n) := fun x hx => h x (List.mem_of_mem_take hx)
theorem parse_ne {n : Nat} {b : List Int} {r : List S} (h : parse n b = some r) (hb : 3 ≤ b.length) : r ≠ [] := by
 cases n with
 | zero => simp [parse] at h
 | succ n =>
  match b, hb with
  | t :: hh :: l :: q, _ =>
   simp only [parse] at h
   split at h
   ·obtain ⟨x, _, rfl⟩ := Option.map_eq_some_iff.1 h
    simp
   ·cases h
theorem clone_eq (x : List Int) (h : x.length < 140737488355328) : slices_Clone_byte_byte.f x = some x := by
 unfold slices_Clone_byte_byte.f
 simp only [Option.bind_some]
 rw [if_pos (by simpa using h)]
 simp
theorem tget_l0 : ∀ (n : Nat) (b : List Int) (out : List S) (k : Nat), b.length < n → n + 70 ≤ k → okB b → b.length ≤ 140737488355000 → out.length ≤ 64 →
  tlv_Get.l0 k b out = some (getR out (parse n b)) := by
 intro n
 induction n with
 | zero => intro b out k h; omega
 | succ n ih =>
  intro b out k hb hk ho hbl hout
  obtain ⟨k, rfl, hk2⟩ := succ_k (show n + 70 < k by omega)
  have fin : b.length < 3 → tlv_Get.l0 (k + 1) b out = if (b.length : Int) > 0 then some ([], some 2) else some (if may out = true then (out, none) else ([], some 2)) := by
   intro h3
   simp only [tlv_Get.l0]
   rw [if_neg (by omega)]
   by_cases h0 : (b.length : Int) > 0
   ·rw [if_pos h0, if_pos h0]
   ·rw [if_neg h0, if_neg h0, tmay out (by omega) k (by omega)]
    simp only [Option.bind_some]
    by_cases hm : may out = true
    ·rw [if_pos hm, if_pos hm]
    ·rw [if_neg hm, if_neg hm]
  match b, hb, ho, hbl, fin with
  | [], _, _, _, fin => rw [fin (by simp)]; simp [parse, getR]
  | [_], _, _, _, fin => rw [fin (by simp)]; simp [parse, getR]
  | [_, _], _, _, _, fin => rw [fin (by simp)]; simp [parse, getR]
  | t :: h :: l :: r, hb, ho, hbl, _ =>
   have ht := ho t (by simp)
   have hh := ho h (by simp)
   have hl := ho l (by simp)
   have hr : okB r := fun x hx => ho x (by simp [hx])
   simp only [List.length_cons] at hb hbl
   simp only [tlv_Get.l0]
   have e0 : rd (t :: h :: l :: r) 0 = t := rfl
   have e1 : rd (t :: h :: l :: r) 1 = h := rfl
   have e2 : rd (t :: h :: l :: r) 2 = l := rfl
   have el : ((t :: h :: l :: r).length : Int) = r.length + 3 := by simp; omega
   rw [e0, e1, e2, el, wrap_id (n := h) (by omega) (by omega), wrap_id (n := h * 256) (by omega) (by omega), wrap_id (n := l) (by omega) (by omega), wrap_id (n := t) (by omega) (by omega),
    wrap_id (n := 3 + h * 256) (by omega) (by omega), wrap_id (n := 3 + h * 256 + l) (by omega) (by omega)]
   rw [if_pos (by omega), if_pos (by omega), if_pos (by omega)]
   by_cases h64 : (out.length : Int) = 64
   ·rw [if_pos h64]
    cases hp : parse (n + 1) (t :: h :: l :: r) with
    | none => rfl
    | some q =>
     have := parse_ne hp (by simp)
     have hq : 0 < q.length := List.length_pos_iff.2 this
     simp only [getR]
     rw [if_neg]
     simp [may]
     intro _
     omega
   rw [if_neg h64]
   simp only [parse]
   by_cases hfit : (h * 256 + l).toNat ≤ r.length
   ·rw [if_neg (by omega), if_pos (by omega), if_pos (by omega), if_pos (by omega), if_pos hfit]
    have et : (3 + h * 256 + l).toNat = 3 + (h * 256 + l).toNat := by omega
    have ec : ((t :: h :: l :: r).take (3 + h * 256 + l).toNat).drop 3 = r.take (h * 256 + l).toNat := by
     rw [et, Nat.add_comm, ]; rfl
    have ed : (t :: h :: l :: r).drop (3 + h * 256 + l).toNat = r.drop (h * 256 + l).toNat := by
     rw [et, Nat.add_comm]; rfl
    rw [ec, ed, clone_eq _ (by rw [List.length_take]; omega)]
    simp only [Option.bind_some]
    rw [if_pos (by omega), if_pos (by omega)]
    have := ih (r.drop (h * 256 + l).toNat) (out ++ [⟨t, r.take (h * 256 + l).toNat⟩]) k (by rw [List.length_drop]; omega) (by omega) (okB_drop hr _) (by rw [List.length_drop]; omega) (by rw [List.length_append, List.length_singleton]; omega)
    rw [this]
    cases parse n (r.drop (h * 256 + l).toNat) with
    | none => rfl
    | some q => simp [getR, List.append_assoc]
   ·rw [if_pos (by omega), if_neg hfit]
    rfl
def dec (b : List Int) : Option (List S) := parse (b.length + 1) b
theorem tget (b : List Int) (k : Nat) (hk : b.length + 71 ≤ k) (ho : okB b) (hb : b.length ≤ 140737488355000) : tlv_Get.f k b = some (getR [] (dec b)) :=
 tget_l0 (b.length + 1) b [] k (by omega) (by omega) ho hb (by simp)
theorem str_append (a b : List Int) : strOfNums a ++ strOfNums b = strOfNums (a ++ b) := by
 apply ByteArray.ext
 rw [ByteArray.data_append]
 apply Array.ext'
 simp [strOfNums_data]
theorem okB_of {l : List Int} (h : ∀ x, x ∈ l → (Lit.int .u8 x).wf = true) : okB l := fun x hx => by have := bounds_u8 (h x hx); omega
end Go.Proofs.Ytkaeoeebagndaaa.Pure
namespace Go.Proofs.Ytkaeoeebagndaaa.Pure
open Go.RowKit Go.ChangeShapes Go.WideShapes Go.Proofs.Ytkaeoeebagndaaa.PRevokeTells Go.Proofs.YtkaeoeebagndaaaW.PrintWords Go.Proofs.YtkaeoeebagndaaaW.PrintLast
set_option linter.unusedVariables false
set_option linter.unusedSimpArgs false
theorem put_parse : ∀ (n : Nat) (b : List Int) (r : List S), okB b → parse n b = some r → putL r = b := by
 intro n
 induction n with
 | zero => intro b r _ h; simp [parse] at h
 | succ n ih =>
  intro b r ho h
  match b, ho with
  | [], _ => simp [parse] at h; subst h; rfl
  | [_], _ => simp [parse] at h
  | [_, _], _ => simp [parse] at h
  | t :: hh :: l :: q, ho =>
   have ht := ho t (by simp)
   have hh' := ho hh (by simp)
   have hl := ho l (by simp)
   simp only [parse] at h
   split at h
   ·rename_i hfit
    obtain ⟨x, hx, rfl⟩ := Option.map_eq_some_iff.1 h
    have := ih _ _ (fun z hz => ho z (by have := List.mem_of_mem_drop hz; simp [this])) hx
    rw [putL_cons, this]
    have el : (q.take (hh * 256 + l).toNat).length = (hh * 256 + l).toNat := by rw [List.length_take]; omega
    simp only [enc]
    rw [el, show t % 256 = t by omega, show (((hh * 256 + l).toNat : Int) / 256) % 256 = hh by omega, show ((hh * 256 + l).toNat : Int) % 256 = l by omega]
    simp
   ·cases h
end Go.Proofs.Ytkaeoeebagndaaa.Pure
namespace Go.Proofs.Ytkaeoeebagndaaa.Pure
open Go.RowKit Go.ChangeShapes Go.WideShapes Go.Proofs.Ytkaeoeebagndaaa.PRevokeTells Go.Proofs.YtkaeoeebagndaaaW.PrintWords Go.Proofs.YtkaeoeebagndaaaW.PrintLast Go.Proofs.YtkaeoeebagndaaaW.PrintMore
set_option linter.unusedVariables false
set_option linter.unusedSimpArgs false
theorem or_step (x b : Int) (hx : 0 ≤ x) (hx2 : x < 72057594037927936) (hb : 0 ≤ b) (hb2 : b < 256) : Go.bits .or .u64 (IntKind.u64.wrap (x * 256)) (IntKind.u64.wrap b) = x * 256 + b := by
 rw [IntKind.wrap_u64, IntKind.wrap_u64, show (x * 256) % 18446744073709551616 = x * 256 by omega, show b % 18446744073709551616 = b by omega]
 obtain ⟨x, rfl⟩ := Int.eq_ofNat_of_zero_le hx
 obtain ⟨b, rfl⟩ := Int.eq_ofNat_of_zero_le hb
 have e : ((x : Int) * 256) = ((x * 256 : Nat) : Int) := by omega
 rw [e, u64_or_nat _ _ (by omega) (by omega)]
 have h := Nat.two_pow_add_eq_or_of_lt (i := 8) (b := b) (show b < 2 ^ 8 by omega) x
 rw [Nat.mul_comm] at h
 have h2 : x * 256 + b = x * 256 ||| b := h
 rw [← h2]
 omega
theorem of_round (k : Nat) (x : Int) (l : List Int) (i : Nat) (hi : i < 8) (hl : l.length = 8) (hx : 0 ≤ x) (hx2 : x < 72057594037927936) (hb : 0 ≤ rd l (i : Int)) (hb2 : rd l (i : Int) < 256) :
  tlv_Of.l0 (k + 1) x l 8 (i : Int) = tlv_Of.l0 k (x * 256 + rd l (i : Int)) l 8 ((i + 1 : Nat) : Int) := by
 simp only [tlv_Of.l0]
 rw [if_pos (by omega), if_pos (by omega), if_pos (by omega), or_step x _ hx hx2 hb hb2, wrap_id (by omega) (by omega)]
 rfl
/-- the number of eight bytes -/
def be8 (l : List Int) : Int := rd l 0 * 72057594037927936 + rd l 1 * 281474976710656 + rd l 2 * 1099511627776 + rd l 3 * 4294967296 + rd l 4 * 16777216 + rd l 5 * 65536 + rd l 6 * 256 + rd l 7
theorem rd_ok {l : List Int} (hb : okB l) (i : Nat) (h : i < l.length) : 0 ≤ rd l (i : Int) ∧ rd l (i : Int) < 256 := by
 have e : rd l (i : Int) = l[i] := by
  show l.getD ((i : Int)).toNat 0 = _
  simp [List.getD, h]
 rw [e]
 exact hb _ (List.getElem_mem h)
theorem tof (l : List Int) (hb : okB l) (k : Nat) : tlv_Of.f (k + 9) l = some (if l.length = 8 then (if be8 l > 9223372036854775807 then (0, some 2) else (be8 l, none)) else (0, some 2)) := by
 unfold tlv_Of.f
 by_cases h8 : l.length = 8
 ·rw [if_pos (by omega), if_pos h8]
  have h0 := rd_ok hb 0 (by omega); have h1 := rd_ok hb 1 (by omega); have h2 := rd_ok hb 2 (by omega); have h3 := rd_ok hb 3 (by omega)
  have h4 := rd_ok hb 4 (by omega); have h5 := rd_ok hb 5 (by omega); have h6 := rd_ok hb 6 (by omega); have h7 := rd_ok hb 7 (by omega)
  rw [h8]
  have r0 := of_round (k + 8) 0 l 0 (by omega) h8 (by omega) (by omega) h0.1 h0.2
  have r1 := of_round (k + 7) _ l 1 (by omega) h8 (show 0 ≤ 0 * 256 + rd l ((0 : Nat) : Int) by omega) (by omega) h1.1 h1.2
  have r2 := of_round (k + 6) _ l 2 (by omega) h8 (show 0 ≤ (0 * 256 + rd l ((0 : Nat) : Int)) * 256 + rd l ((1 : Nat) : Int) by omega) (by omega) h2.1 h2.2
  have r3 := of_round (k + 5) _ l 3 (by omega) h8 (show 0 ≤ ((0 * 256 + rd l ((0 : Nat) : Int)) * 256 + rd l ((1 : Nat) : Int)) * 256 + rd l ((2 : Nat) : Int) by omega) (by omega) h3.1 h3.2
  have r4 := of_round (k + 4) _ l 4 (by omega) h8 (show 0 ≤ (((0 * 256 + rd l ((0 : Nat) : Int)) * 256 + rd l ((1 : Nat) : Int)) * 256 + rd l ((2 : Nat) : Int)) * 256 + rd l ((3 : Nat) : Int) by omega) (by omega) h4.1 h4.2
  have r5 := of_round (k + 3) _ l 5 (by omega) h8 (show 0 ≤ ((((0 * 256 + rd l ((0 : Nat) : Int)) * 256 + rd l ((1 : Nat) : Int)) * 256 + rd l ((2 : Nat) : Int)) * 256 + rd l ((3 : Nat) : Int)) * 256 + rd l ((4 : Nat) : Int) by omega) (by omega) h5.1 h5.2
  have r6 := of_round (k + 2) _ l 6 (by omega) h8 (show 0 ≤ (((((0 * 256 + rd l ((0 : Nat) : Int)) * 256 + rd l ((1 : Nat) : Int)) * 256 + rd l ((2 : Nat) : Int)) * 256 + rd l ((3 : Nat) : Int)) * 256 + rd l ((4 : Nat) : Int)) * 256 + rd l ((5 : Nat) : Int) by omega) (by omega) h6.1 h6.2
  have r7 := of_round (k + 1) _ l 7 (by omega) h8 (show 0 ≤ ((((((0 * 256 + rd l ((0 : Nat) : Int)) * 256 + rd l ((1 : Nat) : Int)) * 256 + rd l ((2 : Nat) : Int)) * 256 + rd l ((3 : Nat) : Int)) * 256 + rd l ((4 : Nat) : Int)) * 256 + rd l ((5 : Nat) : Int)) * 256 + rd l ((6 : Nat) : Int) by omega) (by omega) h7.1 h7.2
  refine r0.trans (r1.trans (r2.trans (r3.trans (r4.trans (r5.trans (r6.trans (r7.trans ?_)))))))
  simp only [tlv_Of.l0]
  rw [if_neg (by omega)]
  have ebe : (((((((0 * 256 + rd l ((0 : Nat) : Int)) * 256 + rd l ((1 : Nat) : Int)) * 256 + rd l ((2 : Nat) : Int)) * 256 + rd l ((3 : Nat) : Int)) * 256 + rd l ((4 : Nat) : Int)) * 256 + rd l ((5 : Nat) : Int)) * 256 + rd l ((6 : Nat) : Int)) * 256 + rd l ((7 : Nat) : Int) = be8 l := by
   unfold be8
   show _ = rd l ((0 : Nat) : Int) * 72057594037927936 + rd l ((1 : Nat) : Int) * 281474976710656 + rd l ((2 : Nat) : Int) * 1099511627776 + rd l ((3 : Nat) : Int) * 4294967296 + rd l ((4 : Nat) : Int) * 16777216 + rd l ((5 : Nat) : Int) * 65536 + rd l ((6 : Nat) : Int) * 256 + rd l ((7 : Nat) : Int)
   omega
  have hnn : 0 ≤ be8 l := by rw [← ebe]; omega
  rw [ebe]
  by_cases hg : be8 l > 9223372036854775807
  ·rw [if_pos hg, if_pos hg]
  ·rw [if_neg hg, if_neg hg, wrap_id (by omega) (by omega)]
 ·rw [if_neg (by omega), if_neg h8]
/-- a number's eight bytes -/
def dig (u : Int) : List Int := [u / 72057594037927936 % 256, u / 281474976710656 % 256, u / 1099511627776 % 256, u / 4294967296 % 256, u / 16777216 % 256, u / 65536 % 256, u / 256 % 256, u % 256]
theorem tnumber (a : Int) (k : Nat) : tlv_Number.f (k + 9) a = some (dig (a % 18446744073709551616)) := by
 have h : tlv_Number.f (k + 9) a = some [shr .u64 (IntKind.u64.wrap a) 56 % 256, shr .u64 (IntKind.u64.wrap a) 48 % 256, shr .u64 (IntKind.u64.wrap a) 40 % 256, shr .u64 (IntKind.u64.wrap a) 32 % 256, shr .u64 (IntKind.u64.wrap a) 24 % 256, shr .u64 (IntKind.u64.wrap a) 16 % 256, shr .u64 (IntKind.u64.wrap a) 8 % 256, shr .u64 (IntKind.u64.wrap a) 0 % 256] := by kernel_rfl
 rw [h, IntKind.wrap_u64]
 simp [shr, IntKind.bits, dig]
theorem okB_dig (u : Int) : okB (dig u) := by
 intro x hx
 simp only [dig, List.mem_cons, List.not_mem_nil, or_false] at hx
 rcases hx with rfl | rfl | rfl | rfl | rfl | rfl | rfl | rfl <;> omega
end Go.Proofs.Ytkaeoeebagndaaa.Pure
namespace Go.Proofs.Ytkaeoeebagndaaa.Pure
open Go.RowKit Go.ChangeShapes Go.WideShapes Go.Proofs.Ytkaeoeebagndaaa.PRevokeTells Go.Proofs.YtkaeoeebagndaaaW.PrintWords Go.Proofs.YtkaeoeebagndaaaW.PrintLast Go.Proofs.YtkaeoeebagndaaaW.PrintMore
set_option linter.unusedVariables false
set_option linter.unusedSimpArgs false
def row16 (x : R) : List Int := dig (x.f0 % 18446744073709551616) ++ dig (x.f1 % 18446744073709551616)
def rdig (l : List R) : List Int := l.flatMap row16
theorem rdig_cons (x : R) (r : List R) : rdig (x :: r) = row16 x ++ rdig r := by simp [rdig]
theorem row16_len (x : R) : (row16 x).length = 16 := rfl
theorem may_one (b : List Int) (h : b.length ≤ 65535) : may [(⟨1, b⟩ : S)] = true := by
 have : (b.length : Int) ≤ 65535 := by omega
 simp [may, mayFrom, this]
theorem pbytes_l0 (l : List R) (hl : l.length ≤ 1000) : ∀ (d i k : Nat) (x : List Int), i + d = l.length → d + 12 < k → x.length = 16 * i →
  revoke_Bytes.l0 k x l (l.length : Int) (i : Int) = some (putL [(⟨1, x ++ rdig (l.drop i)⟩ : S)], none) := by
 intro d
 induction d with
 | zero =>
  intro i k x hi hk hx
  obtain ⟨k, rfl, hk⟩ := succ_k hk
  simp only [revoke_Bytes.l0]
  rw [if_neg (by omega), List.drop_of_length_le (by omega), tput _ (by simp) k (by simp; omega)]
  simp only [putR, rdig, List.flatMap_nil, List.append_nil]
  rw [if_pos (may_one x (by omega))]
  rfl
 | succ d ih =>
  intro i k x hi hk hx
  obtain ⟨k, rfl, hk⟩ := succ_k hk
  have hlt : i < l.length := by omega
  simp only [revoke_Bytes.l0]
  obtain ⟨m, rfl⟩ : ∃ m, k = m + 9 := ⟨k - 9, by omega⟩
  rw [if_pos (by omega), if_pos (by omega), if_pos (by omega), rdR_eq l i hlt, drop_at hlt, tnumber, tnumber]
  simp only [Option.bind_some]
  rw [if_pos (by rw [hx]; simp [dig]; omega), if_pos (by rw [List.length_append, hx]; simp [dig]; omega), wrap_id (by omega) (by omega)]
  have := ih (i + 1) (m + 9) (x ++ row16 l[i]) (by omega) (by omega) (by rw [List.length_append, row16_len]; omega)
  rw [show ((i + 1 : Nat) : Int) = (i : Int) + 1 by omega] at this
  rw [rdig_cons, ← List.append_assoc x, ← this]
  simp [row16, List.append_assoc]
theorem pbytes (l : List R) (hl : l.length ≤ 9223372036854775806) (k : Nat) (hk : l.length < k) (hk2 : 400 ≤ k) : revoke_Bytes.f k l = some (if okL l = true then (putL [(⟨1, rdig l⟩ : S)], none) else ([], some 1)) := by
 unfold revoke_Bytes.f
 rw [pmay l hl k hk]
 simp only [Option.bind_some]
 by_cases h : okL l = true
 ·rw [if_pos h, if_pos h]
  have l1 := ok_len h
  exact pbytes_l0 l (by omega) l.length 0 k [] (by omega) (by omega) rfl
 ·rw [if_neg h, if_neg h]
end Go.Proofs.Ytkaeoeebagndaaa.Pure
namespace Go.Proofs.Ytkaeoeebagndaaa.Pure
open Go.RowKit Go.ChangeShapes Go.WideShapes Go.Proofs.Ytkaeoeebagndaaa.PRevokeTells Go.Proofs.YtkaeoeebagndaaaW.PrintWords Go.Proofs.YtkaeoeebagndaaaW.PrintLast
set_option linter.unusedVariables false
set_option linter.unusedSimpArgs false
theorem rmay_l0 (l : List S) (hl : l.length ≤ 9223372036854775806) : ∀ (d i k : Nat) (last : Int) (hi : i + d = l.length), d < k → (i = 0 → last = 0) → (∀ h : 0 < i, 1 ≤ last ∧ last = (l[i - 1]'(by omega)).f0) →
  clapperref08_May.l0 k l (i : Int) = some (mayFrom last (l.drop i) && decide ((l.length : Int) ≤ 64)) := by
 intro d
 induction d with
 | zero =>
  intro i k last hi hk _ _
  obtain ⟨k, rfl, hk⟩ := succ_k hk
  simp only [clapperref08_May.l0]
  rw [if_neg (by omega), List.drop_of_length_le (by omega)]
  simp [mayFrom]
 | succ d ih =>
  intro i k last hi hk h0 hp
  obtain ⟨k, rfl, hk⟩ := succ_k hk
  have hlt : i < l.length := by omega
  have hlast : 0 ≤ last := by
   rcases Nat.eq_zero_or_pos i with h | h
   ·rw [h0 h]; omega
   ·have := (hp h).1; omega
  simp only [clapperref08_May.l0]
  rw [if_pos (by omega), if_pos (by omega), rdS_eq l i hlt, drop_at hlt]
  simp only [mayFrom]
  by_cases h1 : l[i].f0 < 1
  ·rw [if_pos h1]; simp [show ¬ last < l[i].f0 by omega]
  rw [if_neg h1]
  by_cases h2 : l[i].f0 > 255
  ·rw [if_pos h2]; simp [show ¬ l[i].f0 ≤ 255 by omega]
  rw [if_neg h2]
  by_cases h3 : (l[i].f1.length : Int) > 65535
  ·rw [if_pos h3]; simp [show ¬ (l[i].f1.length : Int) ≤ 65535 by omega, show ¬ l[i].f1.length ≤ 65535 by omega]
  rw [if_neg h3]
  have next : last < l[i].f0 → clapperref08_May.l0 k l (wrap64 ((i : Int) + 1)) = some (mayFrom l[i].f0 (l.drop (i + 1)) && decide ((l.length : Int) ≤ 64)) := by
   intro hlt2
   rw [wrap_id (by omega) (by omega)]
   exact ih (i + 1) k l[i].f0 (by omega) (by omega) (fun h => by omega) (fun h => ⟨by omega, by simp⟩)
  by_cases hi0 : (i : Int) > 0
  ·have hpos : 0 < i := by omega
   obtain ⟨hp1, hp2⟩ := hp hpos
   have e : wrap64 ((i : Int) - 1) = ((i - 1 : Nat) : Int) := by rw [wrap_id (by omega) (by omega)]; omega
   rw [if_pos hi0, e, if_pos (by omega), if_pos (by omega), rdS_eq l (i - 1) (by omega), ← hp2]
   by_cases h4 : l[i].f0 ≤ last
   ·rw [if_pos h4]; simp [show ¬ last < l[i].f0 by omega]
   ·rw [if_neg h4, next (by omega)]
    simp [show last < l[i].f0 by omega, show l[i].f0 ≤ 255 by omega, show (l[i].f1.length : Int) ≤ 65535 by omega]
  ·have hz := h0 (by omega)
   rw [if_neg hi0, next (by omega)]
   simp [show last < l[i].f0 by omega, show l[i].f0 ≤ 255 by omega, show (l[i].f1.length : Int) ≤ 65535 by omega]
theorem rmay (l : List S) (hl : l.length ≤ 9223372036854775806) (k : Nat) (hk : l.length < k) : clapperref08_May.f k l = some (may l) := by
 have := rmay_l0 l hl l.length 0 k 0 (by omega) hk (fun _ => rfl) (fun h => absurd h (Nat.lt_irrefl 0))
 simpa [clapperref08_May.f, may] using this
theorem rput_l0 (l : List S) (hl : l.length ≤ 64) (hm : ∀ f, f ∈ l → f.f1.length ≤ 65535) : ∀ (d i k : Nat) (x : List Int), i + d = l.length → d < k → x.length ≤ i * 65538 →
  clapperref08_Put.l0 k l (strOfNums x) (i : Int) = some (strOfNums (x ++ putL (l.drop i))) := by
 intro d
 induction d with
 | zero =>
  intro i k x hi hk hx
  obtain ⟨k, rfl, hk⟩ := succ_k hk
  simp only [clapperref08_Put.l0]
  rw [if_neg (by omega), List.drop_of_length_le (by omega)]
  simp [putL]
 | succ d ih =>
  intro i k x hi hk hx
  obtain ⟨k, rfl, hk⟩ := succ_k hk
  have hlt : i < l.length := by omega
  have hm1 := hm l[i] (List.getElem_mem hlt)
  simp only [clapperref08_Put.l0]
  rw [if_pos (by omega), if_pos (by omega), rdS_eq l i hlt, drop_at hlt]
  simp only [Option.bind_some]
  rw [wrap_id (n := ((l[i].f1.length : Int)) / 256) (by omega) (by omega), str_append, if_pos (by simp only [strOfNums_size]; simp; omega), if_pos (by simp only [strOfNums_size]; simp; omega), str_append, wrap_id (by omega) (by omega)]
  have := ih (i + 1) k (x ++ enc l[i]) (by omega) (by omega) (by rw [List.length_append, enc_length]; omega)
  rw [show ((i + 1 : Nat) : Int) = (i : Int) + 1 by omega] at this
  rw [putL_cons, ← List.append_assoc x, ← this]
  simp [enc, List.append_assoc]
theorem rput (l : List S) (hm : may l = true) (k : Nat) (hk : l.length < k) : clapperref08_Put.f k l = some (strOfNums (putL l)) := by
 have h1 : mayFrom 0 l = true ∧ (l.length : Int) ≤ 64 := by simpa [may] using hm
 have := rput_l0 l (by omega) (fun f hf => (may_len h1.1 f hf).1) l.length 0 k [] (by omega) hk (by simp)
 have e : strOfNums [] = (⟨#[]⟩ : ByteArray) := rfl
 rw [e] at this
 simpa [clapperref08_Put.f] using this
def rgetR (out : List S) : Option (List S) → List S × Bool
 | none => ([], false)
 | some r => if may (out ++ r) = true then (out ++ r, true) else ([], false)
theorem rget_l0 (b : List Int) (ho : okB b) (hb : b.length ≤ 70000) : ∀ (n i : Nat) (out : List S) (k : Nat), b.length - i < n → i ≤ b.length → n + 80000 ≤ k → 3 * out.length ≤ i →
  clapperref08_Get.l0 k b out (i : Int) = some (rgetR out (parse n (b.drop i))) := by
 intro n
 induction n with
 | zero => intro i out k h; omega
 | succ n ih =>
  intro i out k hn hi hk hout
  obtain ⟨k, rfl, hk2⟩ := succ_k (show n + 80000 < k by omega)
  simp only [clapperref08_Get.l0]
  by_cases hib : i = b.length
  ·rw [if_neg (by omega), rmay out (by omega) k (by omega), List.drop_of_length_le (by omega)]
   simp only [Option.bind_some, parse, rgetR, List.append_nil]
   by_cases hm : may out = true
   ·rw [if_pos hm, if_pos hm]
   ·rw [if_neg hm, if_neg hm]
  rw [if_pos (by omega), wrap_id (n := (i : Int) + 3) (by omega) (by omega)]
  by_cases h3 : (i : Int) + 3 > b.length
  ·rw [if_pos h3]
   have : (b.drop i).length < 3 := by rw [List.length_drop]; omega
   match hq : b.drop i, this with
   | [], _ => have := congrArg List.length hq; rw [List.length_drop] at this; simp at this; omega
   | [_], _ => simp [parse, rgetR]
   | [_, _], _ => simp [parse, rgetR]
  have hi0 : i < b.length := by omega
  have hi1 : i + 1 < b.length := by omega
  have hi2 : i + 2 < b.length := by omega
  have e1 : rd b ((i : Int) + 1) = b[i + 1] := by
   show b.getD ((i : Int) + 1).toNat 0 = _
   rw [show ((i : Int) + 1).toNat = i + 1 by omega]; simp [List.getD, hi1]
  have e2 : rd b ((i : Int) + 2) = b[i + 2] := by
   show b.getD ((i : Int) + 2).toNat 0 = _
   rw [show ((i : Int) + 2).toNat = i + 2 by omega]; simp [List.getD, hi2]
  have e0 : rd b (i : Int) = b[i] := by
   show b.getD ((i : Int)).toNat 0 = _
   simp [List.getD, hi0]
  have o1 := ho b[i + 1] (List.getElem_mem _)
  have o2 := ho b[i + 2] (List.getElem_mem _)
  have o0 := ho b[i] (List.getElem_mem _)
  have hd : b.drop i = b[i] :: b[i + 1] :: b[i + 2] :: b.drop (i + 3) := by
   rw [drop_at hi0, drop_at hi1, drop_at hi2]
  rw [if_neg h3, wrap_id (n := (i : Int) + 1) (by omega) (by omega), wrap_id (n := (i : Int) + 2) (by omega) (by omega), e1, e2, e0,
   wrap_id (n := b[i + 1]) (by omega) (by omega), wrap_id (n := b[i + 2]) (by omega) (by omega), wrap_id (n := b[i]) (by omega) (by omega), wrap_id (n := 256 * b[i + 1]) (by omega) (by omega),
   wrap_id (n := 256 * b[i + 1] + b[i + 2]) (by omega) (by omega), wrap_id (n := (i : Int) + 3 + (256 * b[i + 1] + b[i + 2])) (by omega) (by omega)]
  rw [if_pos (by omega), if_pos (by omega), if_pos (by omega), if_pos (by omega), hd]
  generalize b[i] = t at *
  generalize b[i + 1] = h at *
  generalize b[i + 2] = l at *
  simp only [parse]
  by_cases hfit : (h * 256 + l).toNat ≤ (b.drop (i + 3)).length
  ·have hfit2 := hfit
   rw [List.length_drop] at hfit2
   rw [if_neg (by omega), if_pos (by omega), if_pos hfit]
   simp only [Option.bind_some]
   rw [if_pos (by omega), if_pos (by omega), if_pos (by omega)]
   have em : ((i : Int) + 3 + (256 * h + l)).toNat = (i + 3) + (h * 256 + l).toNat := by omega
   have em3 : ((i : Int) + 3).toNat = i + 3 := by omega
   have et : (b.take ((i : Int) + 3 + (256 * h + l)).toNat).drop ((i : Int) + 3).toNat = (b.drop (i + 3)).take (h * 256 + l).toNat := by
    rw [em, em3, List.drop_take, show i + 3 + (h * 256 + l).toNat - (i + 3) = (h * 256 + l).toNat by omega]
   rw [et, if_pos (by simp only [List.length_nil, List.length_take]; omega), if_pos (by omega)]
   have := ih ((i + 3) + (h * 256 + l).toNat) (out ++ [⟨t, (b.drop (i + 3)).take (h * 256 + l).toNat⟩]) k (by omega) (by omega) (by omega) (by rw [List.length_append, List.length_singleton]; omega)
   rw [show (((i + 3) + (h * 256 + l).toNat : Nat) : Int) = (i : Int) + 3 + (256 * h + l) by omega] at this
   rw [List.nil_append, this, List.drop_drop]
   cases parse n (b.drop ((i + 3) + (h * 256 + l).toNat)) with
   | none => rfl
   | some q => simp [rgetR, List.append_assoc]
  ·have hfit2 := hfit
   rw [List.length_drop] at hfit2
   rw [if_pos (by omega), if_neg hfit]
   rfl
theorem rget (b : List Int) (ho : okB b) (hb : b.length ≤ 70000) (k : Nat) (hk : 160000 ≤ k) : clapperref08_Get.f k b = some (rgetR [] (dec b)) := by
 have := rget_l0 b ho hb (b.length + 1) 0 [] k (by omega) (by omega) (by omega) (by simp)
 simpa [clapperref08_Get.f, dec] using this
end Go.Proofs.Ytkaeoeebagndaaa.Pure
namespace Go.Proofs.Ytkaeoeebagndaaa.Pure
open Go.RowKit Go.ChangeShapes Go.WideShapes Go.Proofs.Ytkaeoeebagndaaa.PRevokeTells Go.Proofs.YtkaeoeebagndaaaW.PrintWords Go.Proofs.YtkaeoeebagndaaaW.PrintLast
set_option linter.unusedVariables false
set_option linter.unusedSimpArgs false
theorem rof_round (k : Nat) (x : Int) (l : List Int) (i : Nat) (hi : i < 8) (hl : l.length = 8) (hx : 0 ≤ x) (hx2 : x * 256 + rd l (i : Int) ≤ 9223372036854775807) (hb : 0 ≤ rd l (i : Int)) (hb2 : rd l (i : Int) < 256) :
  clapperref08_Of.l0 (k + 1) l x (i : Int) = clapperref08_Of.l0 k l (x * 256 + rd l (i : Int)) ((i + 1 : Nat) : Int) := by
 simp only [clapperref08_Of.l0]
 rw [if_pos (by omega), if_pos (by omega), if_pos (by omega), wrap_id (n := 256 * x) (by omega) (by omega), wrap_id (n := rd l (i : Int)) (by omega) (by omega), wrap_id (by omega) (by omega), wrap_id (by omega) (by omega)]
 rw [Int.mul_comm 256 x]
 rfl
theorem rof (l : List Int) (hb : okB l) (k : Nat) : clapperref08_Of.f (k + 11) l = some (if l.length = 8 then (if be8 l > 9223372036854775807 then -1 else be8 l) else -1) := by
 unfold clapperref08_Of.f
 by_cases h8 : l.length = 8
 ·rw [if_pos (by omega), if_pos (by omega), if_pos h8]
  have h0 := rd_ok hb 0 (by omega); have h1 := rd_ok hb 1 (by omega); have h2 := rd_ok hb 2 (by omega); have h3 := rd_ok hb 3 (by omega)
  have h4 := rd_ok hb 4 (by omega); have h5 := rd_ok hb 5 (by omega); have h6 := rd_ok hb 6 (by omega); have h7 := rd_ok hb 7 (by omega)
  have ebe : be8 l = rd l ((0 : Nat) : Int) * 72057594037927936 + rd l ((1 : Nat) : Int) * 281474976710656 + rd l ((2 : Nat) : Int) * 1099511627776 + rd l ((3 : Nat) : Int) * 4294967296 + rd l ((4 : Nat) : Int) * 16777216 + rd l ((5 : Nat) : Int) * 65536 + rd l ((6 : Nat) : Int) * 256 + rd l ((7 : Nat) : Int) := rfl
  simp only [clapperref08_Of.j0]
  by_cases hg : rd l ((0 : Nat) : Int) > 127
  ·have hg' : decide (rd l 0 > 127) = true := decide_eq_true hg
   rw [if_pos hg', if_pos (by rw [ebe]; omega)]
  ·have hg' : decide (rd l 0 > 127) = false := decide_eq_false hg
   rw [hg', if_neg (by simp), if_neg (by rw [ebe]; omega)]
   have r0 := rof_round (k + 9) 0 l 0 (by omega) h8 (by omega) (by omega) h0.1 h0.2
   have r1 := rof_round (k + 8) (0 * 256 + rd l ((0 : Nat) : Int)) l 1 (by omega) h8 (by omega) (by omega) h1.1 h1.2
   have r2 := rof_round (k + 7) ((0 * 256 + rd l ((0 : Nat) : Int)) * 256 + rd l ((1 : Nat) : Int)) l 2 (by omega) h8 (by omega) (by omega) h2.1 h2.2
   have r3 := rof_round (k + 6) (((0 * 256 + rd l ((0 : Nat) : Int)) * 256 + rd l ((1 : Nat) : Int)) * 256 + rd l ((2 : Nat) : Int)) l 3 (by omega) h8 (by omega) (by omega) h3.1 h3.2
   have r4 := rof_round (k + 5) ((((0 * 256 + rd l ((0 : Nat) : Int)) * 256 + rd l ((1 : Nat) : Int)) * 256 + rd l ((2 : Nat) : Int)) * 256 + rd l ((3 : Nat) : Int)) l 4 (by omega) h8 (by omega) (by omega) h4.1 h4.2
   have r5 := rof_round (k + 4) (((((0 * 256 + rd l ((0 : Nat) : Int)) * 256 + rd l ((1 : Nat) : Int)) * 256 + rd l ((2 : Nat) : Int)) * 256 + rd l ((3 : Nat) : Int)) * 256 + rd l ((4 : Nat) : Int)) l 5 (by omega) h8 (by omega) (by omega) h5.1 h5.2
   have r6 := rof_round (k + 3) ((((((0 * 256 + rd l ((0 : Nat) : Int)) * 256 + rd l ((1 : Nat) : Int)) * 256 + rd l ((2 : Nat) : Int)) * 256 + rd l ((3 : Nat) : Int)) * 256 + rd l ((4 : Nat) : Int)) * 256 + rd l ((5 : Nat) : Int)) l 6 (by omega) h8 (by omega) (by omega) h6.1 h6.2
   have r7 := rof_round (k + 2) (((((((0 * 256 + rd l ((0 : Nat) : Int)) * 256 + rd l ((1 : Nat) : Int)) * 256 + rd l ((2 : Nat) : Int)) * 256 + rd l ((3 : Nat) : Int)) * 256 + rd l ((4 : Nat) : Int)) * 256 + rd l ((5 : Nat) : Int)) * 256 + rd l ((6 : Nat) : Int)) l 7 (by omega) h8 (by omega) (by omega) h7.1 h7.2
   refine r0.trans (r1.trans (r2.trans (r3.trans (r4.trans (r5.trans (r6.trans (r7.trans ?_)))))))
   simp only [clapperref08_Of.l0]
   rw [if_neg (by omega)]
   congr 1
   rw [ebe]
   omega
 ·rw [if_neg (by omega), if_neg h8]
  simp [clapperref08_Of.j0]
theorem rn_round (k : Nat) (x : Int) (l : List Int) (i : Nat) (hi : i < 8) (hx : 0 ≤ x) (hx2 : x ≤ 9223372036854775807) (hl : l.length ≤ 8) :
  clapperref08_Number.l0 (k + 1) x l (i : Int) = clapperref08_Number.l0 k (x / 256) (x % 256 :: l) ((i + 1 : Nat) : Int) := by
 have e1 : Int.tmod x 256 = x % 256 := Int.tmod_eq_emod_of_nonneg hx
 have e2 : Int.tdiv x 256 = x / 256 := Int.tdiv_eq_ediv_of_nonneg hx
 simp only [clapperref08_Number.l0]
 rw [if_pos (by omega)]
 simp only [Option.bind_some]
 rw [if_pos (by simp; omega), e1, e2, wrap_id (n := x / 256) (by omega) (by omega), wrap_id (by omega) (by omega), Int.emod_emod]
 rfl
theorem rnumber (m : Int) (h0 : 0 ≤ m) (h1 : m ≤ 9223372036854775807) (k : Nat) : clapperref08_Number.f (k + 9) m = some (strOfNums (dig m)) := by
 unfold clapperref08_Number.f
 have r0 := rn_round (k + 8) m [] 0 (by omega) h0 h1 (by simp)
 have r1 := rn_round (k + 7) (m / 256) [m % 256] 1 (by omega) (by omega) (by omega) (by simp)
 have r2 := rn_round (k + 6) (m / 256 / 256) [m / 256 % 256, m % 256] 2 (by omega) (by omega) (by omega) (by simp)
 have r3 := rn_round (k + 5) (m / 256 / 256 / 256) [m / 256 / 256 % 256, m / 256 % 256, m % 256] 3 (by omega) (by omega) (by omega) (by simp)
 have r4 := rn_round (k + 4) (m / 256 / 256 / 256 / 256) [m / 256 / 256 / 256 % 256, m / 256 / 256 % 256, m / 256 % 256, m % 256] 4 (by omega) (by omega) (by omega) (by simp)
 have r5 := rn_round (k + 3) (m / 256 / 256 / 256 / 256 / 256) [m / 256 / 256 / 256 / 256 % 256, m / 256 / 256 / 256 % 256, m / 256 / 256 % 256, m / 256 % 256, m % 256] 5 (by omega) (by omega) (by omega) (by simp)
 have r6 := rn_round (k + 2) (m / 256 / 256 / 256 / 256 / 256 / 256) [m / 256 / 256 / 256 / 256 / 256 % 256, m / 256 / 256 / 256 / 256 % 256, m / 256 / 256 / 256 % 256, m / 256 / 256 % 256, m / 256 % 256, m % 256] 6 (by omega) (by omega) (by omega) (by simp)
 have r7 := rn_round (k + 1) (m / 256 / 256 / 256 / 256 / 256 / 256 / 256) [m / 256 / 256 / 256 / 256 / 256 / 256 % 256, m / 256 / 256 / 256 / 256 / 256 % 256, m / 256 / 256 / 256 / 256 % 256, m / 256 / 256 / 256 % 256, m / 256 / 256 % 256, m / 256 % 256, m % 256] 7 (by omega) (by omega) (by omega) (by simp)
 refine r0.trans (r1.trans (r2.trans (r3.trans (r4.trans (r5.trans (r6.trans (r7.trans ?_)))))))
 simp only [clapperref08_Number.l0]
 rw [if_neg (by omega)]
 congr 2
 simp only [dig]
 rw [show m / 256 / 256 / 256 / 256 / 256 / 256 / 256 % 256 = m / 72057594037927936 % 256 by omega, show m / 256 / 256 / 256 / 256 / 256 / 256 % 256 = m / 281474976710656 % 256 by omega, show m / 256 / 256 / 256 / 256 / 256 % 256 = m / 1099511627776 % 256 by omega, show m / 256 / 256 / 256 / 256 % 256 = m / 4294967296 % 256 by omega, show m / 256 / 256 / 256 % 256 = m / 16777216 % 256 by omega, show m / 256 / 256 % 256 = m / 65536 % 256 by omega]
theorem bytes_str {l : List Int} (h : okB l) : bytesOf (strOfNums l) = l := by
 unfold bytesOf
 rw [strOfNums_data, List.map_map]
 conv => rhs; rw [← List.map_id l]
 apply List.map_congr_left
 intro x hx
 have := h x hx
 simp only [Function.comp, id]
 rw [UInt8.toNat_ofNat']
 omega
end Go.Proofs.Ytkaeoeebagndaaa.Pure
