/- The plain law of fields and their bytes: what the printed functions of tlv and of its reference tell. -/
import Derived.Test.YtkaeoeebagndaaaRaRevokeBoth
import Derived.OpenShut
namespace Go.Proofs.Ytkaeoeebagndaaa.Pure
open Go.RowKit Go.ChangeShapes Go.WideShapes Go.Proofs.Ytkaeoeebagndaaa.PRevokeBoth Go.Proofs.YtkaeoeebagndaaaW.PrintWords Go.Proofs.YtkaeoeebagndaaaW.PrintLast
set_option linter.unusedVariables false
set_option linter.unusedSimpArgs false
abbrev S := S48
theorem rdS_eq (l : List S) (i : Nat) (h : i < l.length) : rd_T48 l (i : Int) = l[i] := by
  show l.getD ((i : Int)).toNat _ = _
  simp [List.getD, h]
/-- fields above a tag -/
def mayFrom : Int → List S → Bool
  | _, [] => true
  | last, f :: r => decide (last < f.f0) && decide (f.f0 ≤ 255) && decide ((f.f1.length : Int) ≤ 65535) && mayFrom f.f0 r
def may (l : List S) : Bool := mayFrom 0 l && decide ((l.length : Int) ≤ 64)
theorem tmay_l0 (l : List S) (hl : l.length ≤ 9223372036854775806) : ∀ (d i k : Nat) (last : Int), i + d = l.length → d < k →
    tlv_May.l0 k l last l (l.length : Int) (i : Int) = some (mayFrom last (l.drop i) && decide ((l.length : Int) ≤ 64)) := by
  intro d
  induction d with
  | zero =>
    intro i k last hi hk
    obtain ⟨k, rfl, hk⟩ := succ_k hk
    simp only [tlv_May.l0]
    rw [if_neg (by omega), List.drop_of_length_le (by omega)]
    simp [mayFrom]
  | succ d ih =>
    intro i k last hi hk
    obtain ⟨k, rfl, hk⟩ := succ_k hk
    have hlt : i < l.length := by omega
    simp only [tlv_May.l0]
    rw [if_pos (by omega), if_pos (by omega), if_pos (by omega), rdS_eq l i hlt, drop_at hlt]
    simp only [mayFrom]
    by_cases h1 : l[i].f0 ≤ last
    · rw [if_pos h1]; simp [show ¬ last < l[i].f0 by omega]
    rw [if_neg h1]
    by_cases h2 : l[i].f0 > 255
    · rw [if_pos h2]; simp [show ¬ l[i].f0 ≤ 255 by omega]
    rw [if_neg h2]
    by_cases h3 : (l[i].f1.length : Int) > 65535
    · rw [if_pos h3]; simp [show ¬ (l[i].f1.length : Int) ≤ 65535 by omega, show ¬ l[i].f1.length ≤ 65535 by omega]
    rw [if_neg h3, wrap_id (by omega) (by omega)]
    have := ih (i + 1) k l[i].f0 (by omega) (by omega)
    rw [show ((i + 1 : Nat) : Int) = (i : Int) + 1 by omega] at this
    rw [this]
    simp [show last < l[i].f0 by omega, show l[i].f0 ≤ 255 by omega, show (l[i].f1.length : Int) ≤ 65535 by omega]
theorem tmay (l : List S) (hl : l.length ≤ 9223372036854775806) (k : Nat) (hk : l.length < k) : tlv_May.f k l = some (may l) := by
  have := tmay_l0 l hl l.length 0 k 0 (by omega) hk
  simpa [tlv_May.f, may] using this
def enc (f : S) : List Int := [f.f0 % 256, ((f.f1.length : Int) / 256) % 256, (f.f1.length : Int) % 256] ++ f.f1
def putL (l : List S) : List Int := l.flatMap enc
theorem putL_cons (f : S) (r : List S) : putL (f :: r) = enc f ++ putL r := by simp [putL]
theorem enc_length (f : S) : (enc f).length = 3 + f.f1.length := by simp [enc]; omega
theorem may_len {last : Int} {l : List S} (h : mayFrom last l = true) : ∀ f, f ∈ l → f.f1.length ≤ 65535 ∧ last < f.f0 ∧ f.f0 ≤ 255 := by
  induction l generalizing last with
  | nil => intro f hf; cases hf
  | cons g r ih =>
    simp only [mayFrom, Bool.and_eq_true, decide_eq_true_eq] at h
    intro f hf
    rcases List.mem_cons.1 hf with rfl | hf
    · exact ⟨by omega, h.1.1.1, h.1.1.2⟩
    · have := ih h.2 f hf
      exact ⟨this.1, by omega, this.2.2⟩
theorem tput_l0 (l : List S) (hl : l.length ≤ 64) (hm : ∀ f, f ∈ l → f.f1.length ≤ 65535) : ∀ (d i k : Nat) (x : List Int), i + d = l.length → d < k → x.length ≤ i * 65538 →
    tlv_Put.l0 k x l (l.length : Int) (i : Int) = some (x ++ putL (l.drop i), none) := by
  intro d
  induction d with
  | zero =>
    intro i k x hi hk hx
    obtain ⟨k, rfl, hk⟩ := succ_k hk
    simp only [tlv_Put.l0]
    rw [if_neg (by omega), List.drop_of_length_le (by omega)]
    simp [putL]
  | succ d ih =>
    intro i k x hi hk hx
    obtain ⟨k, rfl, hk⟩ := succ_k hk
    have hlt : i < l.length := by omega
    have hm1 := hm l[i] (List.getElem_mem hlt)
    simp only [tlv_Put.l0]
    rw [if_pos (by omega), if_pos (by omega), if_pos (by omega), rdS_eq l i hlt, drop_at hlt]
    simp only [Option.bind_some]
    rw [if_pos (by simp; omega), if_pos (by simp; omega), wrap_id (by omega) (by omega)]
    have := ih (i + 1) k (x ++ enc l[i]) (by omega) (by omega) (by rw [List.length_append, enc_length]; omega)
    rw [show ((i + 1 : Nat) : Int) = (i : Int) + 1 by omega] at this
    rw [putL_cons, ← List.append_assoc, ← this]
    simp [enc, List.append_assoc]
def putR (l : List S) : List Int × Option Int := if may l = true then (putL l, none) else ([], some 1)
theorem tput (l : List S) (hl : l.length ≤ 9223372036854775806) (k : Nat) (hk : l.length < k) : tlv_Put.f k l = some (putR l) := by
  unfold tlv_Put.f putR
  rw [tmay l hl k hk]
  simp only [Option.bind_some]
  by_cases hm : may l = true
  · rw [if_pos hm, if_pos hm]
    have h1 : mayFrom 0 l = true ∧ (l.length : Int) ≤ 64 := by simpa [may] using hm
    have := tput_l0 l (by omega) (fun f hf => (may_len h1.1 f hf).1) l.length 0 k [] (by omega) hk (by simp)
    simpa using this
  · rw [if_neg hm, if_neg hm]
/-- the fields of bytes -/
def parse : Nat → List Int → Option (List S)
  | 0, _ => none
  | n + 1, b => match b with
    | [] => some []
    | [_] => none
    | [_, _] => none
    | t :: h :: l :: r => if (h * 256 + l).toNat ≤ r.length then (parse n (r.drop (h * 256 + l).toNat)).map (⟨t, r.take (h * 256 + l).toNat⟩ :: ·) else none
def getR (out : List S) : Option (List S) → List S × Option Int
  | none => ([], some 2)
  | some r => if may (out ++ r) = true then (out ++ r, none) else ([], some 2)
def okB (b : List Int) : Prop := ∀ x, x ∈ b → 0 ≤ x ∧ x < 256
theorem okB_drop {b : List Int} (h : okB b) (n : Nat) : okB (b.drop n) := fun x hx => h x (List.mem_of_mem_drop hx)
theorem okB_take {b : List Int} (h : okB b) (n : Nat) : okB (b.take n) := fun x hx => h x (List.mem_of_mem_take hx)
theorem parse_ne {n : Nat} {b : List Int} {r : List S} (h : parse n b = some r) (hb : 3 ≤ b.length) : r ≠ [] := by
  cases n with
  | zero => simp [parse] at h
  | succ n =>
    match b, hb with
    | t :: hh :: l :: q, _ =>
      simp only [parse] at h
      split at h
      · obtain ⟨x, _, rfl⟩ := Option.map_eq_some_iff.1 h
        simp
      · cases h
theorem clone_eq (x : List Int) (h : x.length < 140737488355328) : slices_Clone_byte_byte.f x = some x := by
  unfold slices_Clone_byte_byte.f
  simp only [Option.bind_some]
  rw [if_pos (by simpa using h)]
  simp
theorem tget_l0 : ∀ (n : Nat) (b : List Int) (out : List S) (k : Nat), b.length < n → n + 70 ≤ k → okB b → b.length ≤ 140737488355000 → out.length ≤ 64 →
    tlv_Get.l0 k b out = some (getR out (parse n b)) := by
  intro n
  induction n with
  | zero => intro b out k h; omega
  | succ n ih =>
    intro b out k hb hk ho hbl hout
    obtain ⟨k, rfl, hk2⟩ := succ_k (show n + 70 < k by omega)
    have fin : b.length < 3 → tlv_Get.l0 (k + 1) b out = if (b.length : Int) > 0 then some ([], some 2) else some (if may out = true then (out, none) else ([], some 2)) := by
      intro h3
      simp only [tlv_Get.l0]
      rw [if_neg (by omega)]
      by_cases h0 : (b.length : Int) > 0
      · rw [if_pos h0, if_pos h0]
      · rw [if_neg h0, if_neg h0, tmay out (by omega) k (by omega)]
        simp only [Option.bind_some]
        by_cases hm : may out = true
        · rw [if_pos hm, if_pos hm]
        · rw [if_neg hm, if_neg hm]
    match b, hb, ho, hbl, fin with
    | [], _, _, _, fin => rw [fin (by simp)]; simp [parse, getR]
    | [_], _, _, _, fin => rw [fin (by simp)]; simp [parse, getR]
    | [_, _], _, _, _, fin => rw [fin (by simp)]; simp [parse, getR]
    | t :: h :: l :: r, hb, ho, hbl, _ =>
      have ht := ho t (by simp)
      have hh := ho h (by simp)
      have hl := ho l (by simp)
      have hr : okB r := fun x hx => ho x (by simp [hx])
      simp only [List.length_cons] at hb hbl
      simp only [tlv_Get.l0]
      have e0 : rd (t :: h :: l :: r) 0 = t := rfl
      have e1 : rd (t :: h :: l :: r) 1 = h := rfl
      have e2 : rd (t :: h :: l :: r) 2 = l := rfl
      have el : ((t :: h :: l :: r).length : Int) = r.length + 3 := by simp; omega
      rw [e0, e1, e2, el, wrap_id (n := h) (by omega) (by omega), wrap_id (n := h * 256) (by omega) (by omega), wrap_id (n := l) (by omega) (by omega), wrap_id (n := t) (by omega) (by omega),
        wrap_id (n := 3 + h * 256) (by omega) (by omega), wrap_id (n := 3 + h * 256 + l) (by omega) (by omega)]
      rw [if_pos (by omega), if_pos (by omega), if_pos (by omega)]
      by_cases h64 : (out.length : Int) = 64
      · rw [if_pos h64]
        cases hp : parse (n + 1) (t :: h :: l :: r) with
        | none => rfl
        | some q =>
          have := parse_ne hp (by simp)
          have hq : 0 < q.length := List.length_pos_iff.2 this
          simp only [getR]
          rw [if_neg]
          simp [may]
          intro _
          omega
      rw [if_neg h64]
      simp only [parse]
      by_cases hfit : (h * 256 + l).toNat ≤ r.length
      · rw [if_neg (by omega), if_pos (by omega), if_pos (by omega), if_pos (by omega), if_pos hfit]
        have et : (3 + h * 256 + l).toNat = 3 + (h * 256 + l).toNat := by omega
        have ec : ((t :: h :: l :: r).take (3 + h * 256 + l).toNat).drop 3 = r.take (h * 256 + l).toNat := by
          rw [et, Nat.add_comm, ]; rfl
        have ed : (t :: h :: l :: r).drop (3 + h * 256 + l).toNat = r.drop (h * 256 + l).toNat := by
          rw [et, Nat.add_comm]; rfl
        rw [ec, ed, clone_eq _ (by rw [List.length_take]; omega)]
        simp only [Option.bind_some]
        rw [if_pos (by omega), if_pos (by omega)]
        have := ih (r.drop (h * 256 + l).toNat) (out ++ [⟨t, r.take (h * 256 + l).toNat⟩]) k (by rw [List.length_drop]; omega) (by omega) (okB_drop hr _) (by rw [List.length_drop]; omega) (by rw [List.length_append, List.length_singleton]; omega)
        rw [this]
        cases parse n (r.drop (h * 256 + l).toNat) with
        | none => rfl
        | some q => simp [getR, List.append_assoc]
      · rw [if_pos (by omega), if_neg hfit]
        rfl
def dec (b : List Int) : Option (List S) := parse (b.length + 1) b
theorem tget (b : List Int) (k : Nat) (hk : b.length + 71 ≤ k) (ho : okB b) (hb : b.length ≤ 140737488355000) : tlv_Get.f k b = some (getR [] (dec b)) :=
  tget_l0 (b.length + 1) b [] k (by omega) (by omega) ho hb (by simp)
theorem str_append (a b : List Int) : strOfNums a ++ strOfNums b = strOfNums (a ++ b) := by
  apply ByteArray.ext
  rw [ByteArray.data_append]
  apply Array.ext'
  simp [strOfNums_data]
theorem okB_of {l : List Int} (h : ∀ x, x ∈ l → (Lit.int .u8 x).wf = true) : okB l := fun x hx => by have := bounds_u8 (h x hx); omega
theorem int_of {n : Int} (h : (Lit.int .i64 n).wf = true) : -9223372036854775808 ≤ n ∧ n ≤ 9223372036854775807 := by have := bounds_i64 h; omega
end Go.Proofs.Ytkaeoeebagndaaa.Pure
