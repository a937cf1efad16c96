/- .. what the reference's May, Put and Get tell. -/
import Derived.Test.YtikdfamhgopcdaaTbTlvPuts
namespace Go.Proofs.Ytikdfamhgopcdaa.Pure
open Go.RowKit Go.ChangeShapes Go.WideShapes Go.Proofs.Ytikdfamhgopcdaa.PTlvPuts Go.Proofs.YtikdfamhgopcdaaW.PrintWords Go.Proofs.YtikdfamhgopcdaaW.PrintLast
set_option linter.unusedVariables false
set_option linter.unusedSimpArgs false
theorem rmay_l0 (l : List S) (hl : l.length ≤ 9223372036854775806) : ∀ (d i k : Nat) (last : Int) (hi : i + d = l.length), d < k → (i = 0 → last = 0) → (∀ h : 0 < i, 1 ≤ last ∧ last = (l[i - 1]'(by omega)).f0) →
    clapperref08_May.l0 k l (i : Int) = some (mayFrom last (l.drop i) && decide ((l.length : Int) ≤ 64)) := by
  intro d
  induction d with
  | zero =>
    intro i k last hi hk _ _
    obtain ⟨k, rfl, hk⟩ := succ_k hk
    simp only [clapperref08_May.l0]
    rw [if_neg (by omega), List.drop_of_length_le (by omega)]
    simp [mayFrom]
  | succ d ih =>
    intro i k last hi hk h0 hp
    obtain ⟨k, rfl, hk⟩ := succ_k hk
    have hlt : i < l.length := by omega
    have hlast : 0 ≤ last := by
      rcases Nat.eq_zero_or_pos i with h | h
      · rw [h0 h]; omega
      · have := (hp h).1; omega
    simp only [clapperref08_May.l0]
    rw [if_pos (by omega), if_pos (by omega), rdS_eq l i hlt, drop_at hlt]
    simp only [mayFrom]
    by_cases h1 : l[i].f0 < 1
    · rw [if_pos h1]; simp [show ¬ last < l[i].f0 by omega]
    rw [if_neg h1]
    by_cases h2 : l[i].f0 > 255
    · rw [if_pos h2]; simp [show ¬ l[i].f0 ≤ 255 by omega]
    rw [if_neg h2]
    by_cases h3 : (l[i].f1.length : Int) > 65535
    · rw [if_pos h3]; simp [show ¬ (l[i].f1.length : Int) ≤ 65535 by omega, show ¬ l[i].f1.length ≤ 65535 by omega]
    rw [if_neg h3]
    have next : last < l[i].f0 → clapperref08_May.l0 k l (wrap64 ((i : Int) + 1)) = some (mayFrom l[i].f0 (l.drop (i + 1)) && decide ((l.length : Int) ≤ 64)) := by
      intro hlt2
      rw [wrap_id (by omega) (by omega)]
      exact ih (i + 1) k l[i].f0 (by omega) (by omega) (fun h => by omega) (fun h => ⟨by omega, by simp⟩)
    by_cases hi0 : (i : Int) > 0
    · have hpos : 0 < i := by omega
      obtain ⟨hp1, hp2⟩ := hp hpos
      have e : wrap64 ((i : Int) - 1) = ((i - 1 : Nat) : Int) := by rw [wrap_id (by omega) (by omega)]; omega
      rw [if_pos hi0, e, if_pos (by omega), if_pos (by omega), rdS_eq l (i - 1) (by omega), ← hp2]
      by_cases h4 : l[i].f0 ≤ last
      · rw [if_pos h4]; simp [show ¬ last < l[i].f0 by omega]
      · rw [if_neg h4, next (by omega)]
        simp [show last < l[i].f0 by omega, show l[i].f0 ≤ 255 by omega, show (l[i].f1.length : Int) ≤ 65535 by omega]
    · have hz := h0 (by omega)
      rw [if_neg hi0, next (by omega)]
      simp [show last < l[i].f0 by omega, show l[i].f0 ≤ 255 by omega, show (l[i].f1.length : Int) ≤ 65535 by omega]
theorem rmay (l : List S) (hl : l.length ≤ 9223372036854775806) (k : Nat) (hk : l.length < k) : clapperref08_May.f k l = some (may l) := by
  have := rmay_l0 l hl l.length 0 k 0 (by omega) hk (fun _ => rfl) (fun h => absurd h (Nat.lt_irrefl 0))
  simpa [clapperref08_May.f, may] using this
theorem rput_l0 (l : List S) (hl : l.length ≤ 64) (hm : ∀ f, f ∈ l → f.f1.length ≤ 65535) : ∀ (d i k : Nat) (x : List Int), i + d = l.length → d < k → x.length ≤ i * 65538 →
    clapperref08_Put.l0 k l (strOfNums x) (i : Int) = some (strOfNums (x ++ putL (l.drop i))) := by
  intro d
  induction d with
  | zero =>
    intro i k x hi hk hx
    obtain ⟨k, rfl, hk⟩ := succ_k hk
    simp only [clapperref08_Put.l0]
    rw [if_neg (by omega), List.drop_of_length_le (by omega)]
    simp [putL]
  | succ d ih =>
    intro i k x hi hk hx
    obtain ⟨k, rfl, hk⟩ := succ_k hk
    have hlt : i < l.length := by omega
    have hm1 := hm l[i] (List.getElem_mem hlt)
    simp only [clapperref08_Put.l0]
    rw [if_pos (by omega), if_pos (by omega), rdS_eq l i hlt, drop_at hlt]
    simp only [Option.bind_some]
    rw [wrap_id (n := ((l[i].f1.length : Int)) / 256) (by omega) (by omega), str_append, if_pos (by simp only [strOfNums_size]; simp; omega), if_pos (by simp only [strOfNums_size]; simp; omega), str_append, wrap_id (by omega) (by omega)]
    have := ih (i + 1) k (x ++ enc l[i]) (by omega) (by omega) (by rw [List.length_append, enc_length]; omega)
    rw [show ((i + 1 : Nat) : Int) = (i : Int) + 1 by omega] at this
    rw [putL_cons, ← List.append_assoc x, ← this]
    simp [enc, List.append_assoc]
theorem rput (l : List S) (hm : may l = true) (k : Nat) (hk : l.length < k) : clapperref08_Put.f k l = some (strOfNums (putL l)) := by
  have h1 : mayFrom 0 l = true ∧ (l.length : Int) ≤ 64 := by simpa [may] using hm
  have := rput_l0 l (by omega) (fun f hf => (may_len h1.1 f hf).1) l.length 0 k [] (by omega) hk (by simp)
  have e : strOfNums [] = (⟨#[]⟩ : ByteArray) := rfl
  rw [e] at this
  simpa [clapperref08_Put.f] using this
def rgetR (out : List S) : Option (List S) → List S × Bool
  | none => ([], false)
  | some r => if may (out ++ r) = true then (out ++ r, true) else ([], false)
theorem rget_l0 (b : List Int) (ho : okB b) (hb : b.length ≤ 70000) : ∀ (n i : Nat) (out : List S) (k : Nat), b.length - i < n → i ≤ b.length → n + 80000 ≤ k → 3 * out.length ≤ i →
    clapperref08_Get.l0 k b out (i : Int) = some (rgetR out (parse n (b.drop i))) := by
  intro n
  induction n with
  | zero => intro i out k h; omega
  | succ n ih =>
    intro i out k hn hi hk hout
    obtain ⟨k, rfl, hk2⟩ := succ_k (show n + 80000 < k by omega)
    simp only [clapperref08_Get.l0]
    by_cases hib : i = b.length
    · rw [if_neg (by omega), rmay out (by omega) k (by omega), List.drop_of_length_le (by omega)]
      simp only [Option.bind_some, parse, rgetR, List.append_nil]
      by_cases hm : may out = true
      · rw [if_pos hm, if_pos hm]
      · rw [if_neg hm, if_neg hm]
    rw [if_pos (by omega), wrap_id (n := (i : Int) + 3) (by omega) (by omega)]
    by_cases h3 : (i : Int) + 3 > b.length
    · rw [if_pos h3]
      have : (b.drop i).length < 3 := by rw [List.length_drop]; omega
      match hq : b.drop i, this with
      | [], _ => have := congrArg List.length hq; rw [List.length_drop] at this; simp at this; omega
      | [_], _ => simp [parse, rgetR]
      | [_, _], _ => simp [parse, rgetR]
    have hi0 : i < b.length := by omega
    have hi1 : i + 1 < b.length := by omega
    have hi2 : i + 2 < b.length := by omega
    have e1 : rd b ((i : Int) + 1) = b[i + 1] := by
      show b.getD ((i : Int) + 1).toNat 0 = _
      rw [show ((i : Int) + 1).toNat = i + 1 by omega]; simp [List.getD, hi1]
    have e2 : rd b ((i : Int) + 2) = b[i + 2] := by
      show b.getD ((i : Int) + 2).toNat 0 = _
      rw [show ((i : Int) + 2).toNat = i + 2 by omega]; simp [List.getD, hi2]
    have e0 : rd b (i : Int) = b[i] := by
      show b.getD ((i : Int)).toNat 0 = _
      simp [List.getD, hi0]
    have o1 := ho b[i + 1] (List.getElem_mem _)
    have o2 := ho b[i + 2] (List.getElem_mem _)
    have o0 := ho b[i] (List.getElem_mem _)
    have hd : b.drop i = b[i] :: b[i + 1] :: b[i + 2] :: b.drop (i + 3) := by
      rw [drop_at hi0, drop_at hi1, drop_at hi2]
    rw [if_neg h3, wrap_id (n := (i : Int) + 1) (by omega) (by omega), wrap_id (n := (i : Int) + 2) (by omega) (by omega), e1, e2, e0,
      wrap_id (n := b[i + 1]) (by omega) (by omega), wrap_id (n := b[i + 2]) (by omega) (by omega), wrap_id (n := b[i]) (by omega) (by omega), wrap_id (n := 256 * b[i + 1]) (by omega) (by omega),
      wrap_id (n := 256 * b[i + 1] + b[i + 2]) (by omega) (by omega), wrap_id (n := (i : Int) + 3 + (256 * b[i + 1] + b[i + 2])) (by omega) (by omega)]
    rw [if_pos (by omega), if_pos (by omega), if_pos (by omega), if_pos (by omega), hd]
    generalize b[i] = t at *
    generalize b[i + 1] = h at *
    generalize b[i + 2] = l at *
    simp only [parse]
    by_cases hfit : (h * 256 + l).toNat ≤ (b.drop (i + 3)).length
    · have hfit2 := hfit
      rw [List.length_drop] at hfit2
      rw [if_neg (by omega), if_pos (by omega), if_pos hfit]
      simp only [Option.bind_some]
      rw [if_pos (by omega), if_pos (by omega), if_pos (by omega)]
      have em : ((i : Int) + 3 + (256 * h + l)).toNat = (i + 3) + (h * 256 + l).toNat := by omega
      have em3 : ((i : Int) + 3).toNat = i + 3 := by omega
      have et : (b.take ((i : Int) + 3 + (256 * h + l)).toNat).drop ((i : Int) + 3).toNat = (b.drop (i + 3)).take (h * 256 + l).toNat := by
        rw [em, em3, List.drop_take, show i + 3 + (h * 256 + l).toNat - (i + 3) = (h * 256 + l).toNat by omega]
      rw [et, if_pos (by simp only [List.length_nil, List.length_take]; omega), if_pos (by omega)]
      have := ih ((i + 3) + (h * 256 + l).toNat) (out ++ [⟨t, (b.drop (i + 3)).take (h * 256 + l).toNat⟩]) k (by omega) (by omega) (by omega) (by rw [List.length_append, List.length_singleton]; omega)
      rw [show (((i + 3) + (h * 256 + l).toNat : Nat) : Int) = (i : Int) + 3 + (256 * h + l) by omega] at this
      rw [List.nil_append, this, List.drop_drop]
      cases parse n (b.drop ((i + 3) + (h * 256 + l).toNat)) with
      | none => rfl
      | some q => simp [rgetR, List.append_assoc]
    · have hfit2 := hfit
      rw [List.length_drop] at hfit2
      rw [if_pos (by omega), if_neg hfit]
      rfl
theorem rget (b : List Int) (ho : okB b) (hb : b.length ≤ 70000) (k : Nat) (hk : 160000 ≤ k) : clapperref08_Get.f k b = some (rgetR [] (dec b)) := by
  have := rget_l0 b ho hb (b.length + 1) 0 [] k (by omega) (by omega) (by omega) (by simp)
  simpa [clapperref08_Get.f, dec] using this
end Go.Proofs.Ytikdfamhgopcdaa.Pure
