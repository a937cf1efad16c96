/- TlvCut, the plain law: the printed functions answer true for every input. -/
import Derived.Test.YtikdfamhgopcdaaTdTlvCut
namespace Go.Proofs.Ytikdfamhgopcdaa.Pure
open Go.RowKit Go.ChangeShapes Go.WideShapes Go.Proofs.Ytikdfamhgopcdaa.PTlvCut Go.Proofs.YtikdfamhgopcdaaW.PrintWords Go.Proofs.YtikdfamhgopcdaaW.PrintLast
set_option linter.unusedVariables false
set_option linter.unusedSimpArgs false
theorem TlvCut (l0 : List S63) (hm0 : l0.length ≤ maxLen) (hw0 : ∀ x, x ∈ l0 → (fun x => (Lit.int .i64 x.f0).wf = true ∧ x.f1.length ≤ maxLen ∧ ∀ y, y ∈ x.f1 → (Lit.int .u8 y).wf = true) x) (a1 : Int) (w1 : (Lit.int .i64 a1).wf = true) : ∃ k, clapperlaw08_TlvCut.f k l0 a1 = some true := by
  obtain ⟨k, hk⟩ : ∃ k : Nat, 20000000 ≤ k := ⟨20000000, Nat.le_refl _⟩
  refine ⟨k + 2, ?_⟩
  unfold clapperlaw08_TlvCut.f clapperlaw08_up.f
  simp only [Option.bind_some]
  by_cases h0 : (l0.length : Int) = 0
  · rw [if_pos h0]
    simp [clapperlaw08_TlvCut.j0]
  rw [if_neg h0]
  simp only [clapperlaw08_TlvCut.j0]
  by_cases h3 : (l0.length : Int) > 300
  · simp [h3]
  rw [decide_eq_false h3]
  have et : (wrap64 ((l0.length : Int) - 1)).toNat = l0.length - 1 := by rw [wrap_id (by omega) (by omega)]; omega
  have hlt : (l0.take (l0.length - 1)).length = l0.length - 1 := by rw [List.length_take]; omega
  rw [if_neg (by simp), tput l0 (by omega) (k + 1) (by omega)]
  simp only [Option.bind_some]
  rw [if_pos (by rw [wrap_id (by omega) (by omega)]; omega), if_pos (by rw [wrap_id (by omega) (by omega)]; omega), et, tput _ (by omega) (k + 1) (by omega)]
  simp only [Option.bind_some]
  have done : ∀ a b, clapperlaw08_TlvCut.j1 (k + 1) a1 true a b true = some true := fun a b => by simp [clapperlaw08_TlvCut.j1]
  by_cases hm : may l0 = true
  · by_cases hq : may (l0.take (l0.length - 1)) = true
    · simp only [putR, hm, hq, if_true]
      simp only [Option.isNone_none, if_true]
      obtain ⟨l, f, rfl⟩ : ∃ l f, l0 = l ++ [f] := ⟨l0.dropLast, l0.getLast (by rintro rfl; simp at h0), (List.dropLast_concat_getLast _).symm⟩
      have e1 : (l ++ [f]).take ((l ++ [f]).length - 1) = l := by simp
      rw [e1, putL_append, show putL [f] = enc f by simp [putL]]
      have hl := may_from hm
      have hf := hl.1 f (by simp)
      simp only [clapperlaw08_TlvCut.j1]
      have hgt : ((putL l ++ enc f).length : Int) > ((putL l).length : Int) := by rw [List.length_append, enc_length]; omega
      rw [if_neg (by simp), decide_eq_true hgt]
      by_cases ha : a1 ≤ ((putL l).length : Int)
      · rw [if_pos ha]; simp
      rw [if_neg ha]
      by_cases hb : a1 ≥ ((putL l ++ enc f).length : Int)
      · rw [if_pos hb]; simp
      rw [if_neg hb, if_pos (by omega), if_pos (by omega)]
      have hbl : (putL l ++ enc f).length ≤ 4194432 := by
        have : ∀ (q : List S), (∀ f, f ∈ q → 0 ≤ f.f0 ∧ f.f0 ≤ 255 ∧ f.f1.length ≤ 65535) → (putL q).length ≤ q.length * 65538 := by
          intro q
          induction q with
          | nil => intro _; simp [putL]
          | cons g r ih =>
            intro h
            have := ih (fun f hf => h f (by simp [hf]))
            have := (h g (by simp)).2.2
            rw [putL_cons, List.length_append, enc_length, List.length_cons]
            omega
        have h1 := this (l ++ [f]) hl.1
        rw [putL_append, show putL [f] = enc f by simp [putL]] at h1
        omega
      have hok : okB (putL l ++ enc f) := by
        have := putL_bytes (l := l ++ [f]) (fun x hx => (hw0 x hx).2.2)
        rwa [putL_append, show putL [f] = enc f by simp [putL]] at this
      have hlt2 : ((putL l ++ enc f).take a1.toNat).length ≤ 4194432 := by rw [List.length_take]; omega
      have hg := tget ((putL l ++ enc f).take a1.toNat) k (by omega) (okB_take hok _) (by omega)
      rw [hg]
      clear hg hlt2
      obtain ⟨m, rfl⟩ : ∃ m : Nat, a1 = ((putL l).length + m : Nat) := ⟨(a1 - (putL l).length).toNat, by omega⟩
      have ecut : (putL l ++ enc f).take (((putL l).length + m : Nat) : Int).toNat = putL l ++ (enc f).take m := by
        rw [Int.toNat_natCast, List.take_append, List.take_of_length_le (by omega)]
        congr 2
        omega
      rw [ecut]
      have hm2 : m < 3 + f.f1.length := by rw [List.length_append, enc_length] at hb; omega
      have hlen := putL_len l
      have hd : dec (putL l ++ (enc f).take m) = none := by
        have := parse_cat l (fun g hg => hl.1 g (by simp [hg])) ((enc f).take m) ((putL l ++ (enc f).take m).length + 1 - l.length)
        rw [show (putL l ++ (enc f).take m).length + 1 - l.length + l.length = (putL l ++ (enc f).take m).length + 1 by rw [List.length_append]; omega] at this
        rw [dec, this, parse_cut f _ m (by omega) hm2 hf.2.2]
        rfl
      rw [hd]
      simp [getR]
    · simp [putR, hm, hq, done]
  · simp [putR, hm, done]
end Go.Proofs.Ytikdfamhgopcdaa.Pure
