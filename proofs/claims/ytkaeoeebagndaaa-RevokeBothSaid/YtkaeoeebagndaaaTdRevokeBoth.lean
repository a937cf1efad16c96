/- .. fields that were written are read, and bytes that were read are written. -/
import Derived.Test.YtkaeoeebagndaaaTaRevokeBoth
namespace Go.Proofs.Ytkaeoeebagndaaa.Pure
open Go.RowKit Go.ChangeShapes Go.WideShapes Go.Proofs.Ytkaeoeebagndaaa.PRevokeBoth Go.Proofs.YtkaeoeebagndaaaW.PrintWords Go.Proofs.YtkaeoeebagndaaaW.PrintLast
set_option linter.unusedVariables false
set_option linter.unusedSimpArgs false
theorem parse_one (n : Nat) (g : S) (h0 : 0 ≤ g.f0) (h1 : g.f0 ≤ 255) (h2 : g.f1.length ≤ 65535) (tail : List Int) :
    parse (n + 1) (enc g ++ tail) = (parse n tail).map (g :: ·) := by
  have e : enc g ++ tail = (g.f0 % 256) :: (((g.f1.length : Int) / 256) % 256) :: ((g.f1.length : Int) % 256) :: (g.f1 ++ tail) := by simp [enc]
  have em : ((((g.f1.length : Int) / 256) % 256) * 256 + (g.f1.length : Int) % 256).toNat = g.f1.length := by omega
  have e0 : g.f0 % 256 = g.f0 := by omega
  rw [e]
  simp only [parse]
  rw [em, e0, if_pos (by simp)]
  simp
theorem parse_cat (l : List S) (hm : ∀ f, f ∈ l → 0 ≤ f.f0 ∧ f.f0 ≤ 255 ∧ f.f1.length ≤ 65535) (tail : List Int) : ∀ n, parse (n + l.length) (putL l ++ tail) = (parse n tail).map (l ++ ·) := by
  induction l with
  | nil => intro n; simp [putL]
  | cons g r ih =>
    intro n
    have hg := hm g (by simp)
    rw [putL_cons, List.append_assoc, List.length_cons, ← Nat.add_assoc, parse_one _ g hg.1 hg.2.1 hg.2.2, ih (fun f hf => hm f (by simp [hf]))]
    cases parse n tail with
    | none => rfl
    | some q => simp
theorem putL_len (l : List S) : l.length ≤ (putL l).length := by
  induction l with
  | nil => simp [putL]
  | cons g r ih => rw [putL_cons, List.length_append, enc_length, List.length_cons]; omega
theorem putL_append (l r : List S) : putL (l ++ r) = putL l ++ putL r := by simp [putL]
theorem may_from {l : List S} (h : may l = true) : (∀ f, f ∈ l → 0 ≤ f.f0 ∧ f.f0 ≤ 255 ∧ f.f1.length ≤ 65535) ∧ l.length ≤ 64 := by
  have h1 : mayFrom 0 l = true ∧ (l.length : Int) ≤ 64 := by simpa [may] using h
  exact ⟨fun f hf => by have := may_len h1.1 f hf; omega, by omega⟩
theorem dec_put (l : List S) (h : may l = true) : dec (putL l) = some l := by
  have h1 := may_from h
  have hl := putL_len l
  have := parse_cat l h1.1 [] ((putL l).length + 1 - l.length)
  rw [List.append_nil, show (putL l).length + 1 - l.length + l.length = (putL l).length + 1 by omega] at this
  rw [dec, this]
  obtain ⟨m, hm⟩ : ∃ m, (putL l).length + 1 - l.length = m + 1 := ⟨(putL l).length - l.length, by omega⟩
  rw [hm]
  simp [parse]
theorem parse_cut (f : S) (n m : Nat) (h0 : 0 < m) (h1 : m < 3 + f.f1.length) (h2 : f.f1.length ≤ 65535) : parse n ((enc f).take m) = none := by
  cases n with
  | zero => rfl
  | succ n =>
    have e : enc f = (f.f0 % 256) :: (((f.f1.length : Int) / 256) % 256) :: ((f.f1.length : Int) % 256) :: f.f1 := by simp [enc]
    rw [e]
    match m, h0, h1 with
    | 1, _, _ => simp [parse]
    | 2, _, _ => simp [parse]
    | m + 3, _, h1 =>
      have em : ((((f.f1.length : Int) / 256) % 256) * 256 + (f.f1.length : Int) % 256).toNat = f.f1.length := by omega
      simp only [List.take_succ_cons, parse]
      rw [em, if_neg (by rw [List.length_take]; omega)]
theorem putL_bytes {l : List S} (hw : ∀ x, x ∈ l → ∀ y, y ∈ x.f1 → (Lit.int .u8 y).wf = true) : okB (putL l) := by
  intro x hx
  obtain ⟨f, hf, hx⟩ := List.mem_flatMap.1 hx
  simp only [enc, List.mem_append, List.mem_cons, List.not_mem_nil, or_false] at hx
  rcases hx with (h | h | h) | h
  · omega
  · omega
  · omega
  · have := bounds_u8 (hw f hf x h); omega
theorem put_parse : ∀ (n : Nat) (b : List Int) (r : List S), okB b → parse n b = some r → putL r = b := by
  intro n
  induction n with
  | zero => intro b r _ h; simp [parse] at h
  | succ n ih =>
    intro b r ho h
    match b, ho with
    | [], _ => simp [parse] at h; subst h; rfl
    | [_], _ => simp [parse] at h
    | [_, _], _ => simp [parse] at h
    | t :: hh :: l :: q, ho =>
      have ht := ho t (by simp)
      have hh' := ho hh (by simp)
      have hl := ho l (by simp)
      simp only [parse] at h
      split at h
      · rename_i hfit
        obtain ⟨x, hx, rfl⟩ := Option.map_eq_some_iff.1 h
        have := ih _ _ (fun z hz => ho z (by have := List.mem_of_mem_drop hz; simp [this])) hx
        rw [putL_cons, this]
        have el : (q.take (hh * 256 + l).toNat).length = (hh * 256 + l).toNat := by rw [List.length_take]; omega
        simp only [enc]
        rw [el, show t % 256 = t by omega, show (((hh * 256 + l).toNat : Int) / 256) % 256 = hh by omega, show ((hh * 256 + l).toNat : Int) % 256 = l by omega]
        simp
      · cases h
end Go.Proofs.Ytkaeoeebagndaaa.Pure
