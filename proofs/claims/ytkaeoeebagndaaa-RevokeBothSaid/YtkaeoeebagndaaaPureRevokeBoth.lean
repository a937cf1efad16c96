/- RevokeBoth, the plain law: the printed functions answer true for every input. -/
import Derived.Test.YtkaeoeebagndaaaPRevokeBothx
import Derived.Test.YtkaeoeebagndaaaRbRevokeBoth
import Derived.Test.YtkaeoeebagndaaaRpRevokeBoth
namespace Go.Proofs.Ytkaeoeebagndaaa.Pure
open Go.RowKit Go.ChangeShapes Go.WideShapes Go.Proofs.Ytkaeoeebagndaaa.PRevokeBoth Go.Proofs.YtkaeoeebagndaaaW.PrintWords Go.Proofs.YtkaeoeebagndaaaW.PrintLast Go.Proofs.YtkaeoeebagndaaaW.PrintMore
set_option linter.unusedVariables false
set_option linter.unusedSimpArgs false
theorem pis (l : List R) (hl : l.length ≤ 9223372036854775806) (s t : Int) (k : Nat) (hk : l.length < k) : revoke_Is.f k l s t = some (okL l && l.any (isP s t)) := by
  unfold revoke_Is.f
  rw [pmay l hl k hk]
  simp only [Option.bind_some]
  cases okL l <;> simp
theorem both_rest (a b : List R) (s t u : Int) (ha : a.length ≤ 300) (hb : b.length ≤ 300) (k : Nat) (hk : 5000 ≤ k) :
    ((revoke_Merge.f k a b).bind fun m => ((revoke_Merge.f k b a).bind fun n => (if m.2.isNone = true then ((revoke_Is.f k m.1 s t).bind fun p => (if n.2.isNone = true then ((clapperref11_Same.f k m.1 n.1).bind fun q => (if q = true then ((revoke_Is.f k a s t).bind fun p1 => (if p1 = true then (if (p != true) = true then (some false) else (if true = true then (if p = true then (if u < t then (some true) else ((revoke_Is.f k m.1 s u).bind fun p3 => (some p3))) else (some true)) else (some false))) else ((revoke_Is.f k b s t).bind fun p2 => (if (p != p2) = true then (some false) else (if true = true then (if p = true then (if u < t then (some true) else ((revoke_Is.f k m.1 s u).bind fun p3 => (some p3))) else (some true)) else (some false)))))) else (some false))) else (some false))) else (if true = true then (if n.2.isNone = true then (some false) else (some true)) else (some false))))) = some true := by
  rw [pmerge a b (by omega) (by omega) k (by omega) (by omega) (by omega), pmerge b a (by omega) (by omega) k (by omega) (by omega) (by omega)]
  have e : mergeR b a = mergeR a b := by
    unfold mergeR
    rw [mrg_comm _ b a (Nat.le_refl _)]
    by_cases h : okL a = true ∧ okL b = true
    · rw [if_pos h, if_pos ⟨h.2, h.1⟩]
    · rw [if_neg h, if_neg (fun q => h ⟨q.2, q.1⟩)]
  rw [e]
  simp only [Option.bind_some]
  by_cases h : okL a = true ∧ okL b = true
  · by_cases hg : ((mrg a b).length : Int) > 200
    · have : mergeR a b = ([], some 3) := by unfold mergeR; rw [if_pos h, if_pos hg]
      simp [this]
    · have em : mergeR a b = (mrg a b, none) := by unfold mergeR; rw [if_pos h, if_neg hg]
      have hokm : okL (mrg a b) = true := by
        have := ok_mrg _ a b 0 (Nat.le_refl _) (ok_len h.1).1 (ok_len h.2).1
        simp [okL, this]
        omega
      have hany := mrg_any s t _ a b (Nat.le_refl _)
      rw [em]
      simp only [Option.isNone_none, if_true]
      rw [rsame (mrg a b) (by omega) k (by omega)]
      simp only [pis (mrg a b) (by omega) _ _ k (by omega), pis a (by omega) _ _ k (by omega), pis b (by omega) _ _ k (by omega), Option.bind_some, hokm, h.1, h.2, Bool.true_and, if_true]
      have fin : (mrg a b).any (isP s t) = true → (if u < t then some true else some ((mrg a b).any (isP s u))) = some true := by
        intro hp
        by_cases hu : u < t
        · rw [if_pos hu]
        · rw [if_neg hu, any_later (by omega) hp]
      by_cases h1 : a.any (isP s t) = true
      · have hp : (mrg a b).any (isP s t) = true := by rw [hany, h1]; rfl
        rw [hp] at fin
        rw [if_pos h1, hp]
        simpa using fin rfl
      · have hp : (mrg a b).any (isP s t) = b.any (isP s t) := by rw [hany]; simp only [Bool.not_eq_true] at h1; rw [h1]; rfl
        rw [if_neg h1, hp]
        rw [hp] at fin
        by_cases h2 : b.any (isP s t) = true
        · rw [h2] at fin ⊢
          simpa using fin rfl
        · simp only [Bool.not_eq_true] at h2
          rw [h2]
          rfl
  · have : mergeR a b = ([], some 1) := by unfold mergeR; rw [if_neg h]
    simp [this]
theorem RevokeBoth (l0 : List S43) (hm0 : l0.length ≤ maxLen) (hw0 : ∀ x, x ∈ l0 → (fun x => (Lit.int .i64 x.f0).wf = true ∧ (Lit.int .i64 x.f1).wf = true) x) (l1 : List S43) (hm1 : l1.length ≤ maxLen) (hw1 : ∀ x, x ∈ l1 → (fun x => (Lit.int .i64 x.f0).wf = true ∧ (Lit.int .i64 x.f1).wf = true) x)
    (a2 : Int) (w2 : (Lit.int .i64 a2).wf = true) (a3 : Int) (w3 : (Lit.int .i64 a3).wf = true) (a4 : Int) (w4 : (Lit.int .i64 a4).wf = true) : ∃ k, clapperlaw11_RevokeBoth.f k l0 l1 a2 a3 a4 = some true := by
  obtain ⟨k, hk⟩ : ∃ k : Nat, 500000 ≤ k := ⟨500000, Nat.le_refl _⟩
  refine ⟨k + 2, ?_⟩
  unfold clapperlaw11_RevokeBoth.f
  rw [up_ok _ (by omega)]
  simp only [Option.bind_some]
  by_cases h3 : (l0.length : Int) > 300
  · rw [if_pos h3]; simp only [clapperlaw11_RevokeBoth.j0]; rw [if_pos trivial]
  rw [if_neg h3]
  by_cases h4 : (l1.length : Int) > 300
  · rw [decide_eq_true h4]; simp only [clapperlaw11_RevokeBoth.j0]; rw [if_pos trivial]
  rw [decide_eq_false h4]
  rw [clapperlaw11_RevokeBoth.j0]
  rw [if_neg (by simp), pbytes l0 (by omega) (k + 1) (by omega) (by omega)]
  have rest := both_rest l0 l1 a2 a3 a4 (by omega) (by omega) (k + 1) (by omega)
  by_cases h0 : okL l0 = true
  · have n0 := ok_len h0
    rw [if_pos h0]
    rw [Option.bind_some, if_pos (show (none : Option Int).isNone = true from rfl), pparse l0 h0 (k + 1) (by omega)]
    rw [Option.bind_some, if_pos (show (none : Option Int).isNone = true from rfl), rsame l0 (by omega) (k + 1) (by omega)]
    rw [Option.bind_some, if_pos rfl]
    exact rest
  · rw [if_neg h0]
    rw [Option.bind_some, if_neg (by simp)]
    exact rest
end Go.Proofs.Ytkaeoeebagndaaa.Pure
