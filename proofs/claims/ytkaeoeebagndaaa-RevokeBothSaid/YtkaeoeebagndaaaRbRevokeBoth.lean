/- The plain law of merged lists: both orders, what is revoked in them. -/
import Derived.Test.YtkaeoeebagndaaaRaRevokeBoth
namespace Go.Proofs.Ytkaeoeebagndaaa.Pure
open Go.RowKit Go.ChangeShapes Go.WideShapes Go.Proofs.Ytkaeoeebagndaaa.PRevokeBoth Go.Proofs.YtkaeoeebagndaaaW.PrintWords Go.Proofs.YtkaeoeebagndaaaW.PrintLast Go.Proofs.YtkaeoeebagndaaaW.PrintMore
set_option linter.unusedVariables false
set_option linter.unusedSimpArgs false
theorem mn_comm (a b : Int) : mn a b = mn b a := by unfold mn; split <;> split <;> omega
theorem mn_range {a b l h : Int} (h1 : l ≤ a) (h2 : l ≤ b) (h3 : a ≤ h) (h4 : b ≤ h) : l ≤ mn a b ∧ mn a b ≤ h := by unfold mn; split <;> omega
theorem mn_le (a b t : Int) : decide (mn a b ≤ t) = (decide (a ≤ t) || decide (b ≤ t)) := by
  have : (mn a b ≤ t) ↔ (a ≤ t ∨ b ≤ t) := by unfold mn; split <;> omega
  by_cases h : mn a b ≤ t
  · rw [decide_eq_true h]
    rcases this.1 h with h1 | h1
    · rw [decide_eq_true h1]; rfl
    · rw [decide_eq_true h1]; simp
  · rw [decide_eq_false h, decide_eq_false (fun q => h (this.2 (.inl q))), decide_eq_false (fun q => h (this.2 (.inr q)))]; rfl
theorem mrg_comm : ∀ (n : Nat) (a b : List R), a.length + b.length ≤ n → mrg a b = mrg b a := by
  intro n
  induction n with
  | zero =>
    intro a b h
    have ha : a = [] := List.length_eq_zero_iff.1 (by omega)
    have hb : b = [] := List.length_eq_zero_iff.1 (by omega)
    subst ha hb
    rfl
  | succ n ih =>
    intro a b h
    cases a with
    | nil => rw [nil_mrg, mrg_nil]
    | cons x a =>
      cases b with
      | nil => rw [nil_mrg, mrg_nil]
      | cons y b =>
        simp only [List.length_cons] at h
        rw [mrg_cons, mrg_cons]
        by_cases h1 : x.f0 < y.f0
        · rw [if_pos h1, if_neg (by omega), if_pos h1, ih a (y :: b) (by simp only [List.length_cons]; omega)]
        · by_cases h2 : y.f0 < x.f0
          · rw [if_neg h1, if_pos h2, if_pos h2, ih (x :: a) b (by simp only [List.length_cons]; omega)]
          · rw [if_neg h1, if_neg h2, if_neg h2, if_neg h1, ih a b (by omega), mn_comm, show x.f0 = y.f0 by omega]
theorem mrg_any (s t : Int) : ∀ (n : Nat) (a b : List R), a.length + b.length ≤ n → (mrg a b).any (isP s t) = (a.any (isP s t) || b.any (isP s t)) := by
  intro n
  induction n with
  | zero =>
    intro a b h
    have ha : a = [] := List.length_eq_zero_iff.1 (by omega)
    have hb : b = [] := List.length_eq_zero_iff.1 (by omega)
    subst ha hb
    rw [nil_mrg]
    rfl
  | succ n ih =>
    intro a b h
    cases a with
    | nil => rw [nil_mrg]; rfl
    | cons x a =>
      cases b with
      | nil => rw [mrg_nil]; simp
      | cons y b =>
        simp only [List.length_cons] at h
        rw [mrg_cons]
        by_cases h1 : x.f0 < y.f0
        · rw [if_pos h1, List.any_cons, ih a (y :: b) (by simp only [List.length_cons]; omega), List.any_cons (l := a), Bool.or_assoc]
        · by_cases h2 : y.f0 < x.f0
          · rw [if_neg h1, if_pos h2, List.any_cons, ih (x :: a) b (by simp only [List.length_cons]; omega), List.any_cons (l := b)]
            generalize isP s t y = p
            generalize (x :: a).any (isP s t) = q
            generalize b.any (isP s t) = r
            cases p <;> cases q <;> cases r <;> rfl
          · rw [if_neg h1, if_neg h2, List.any_cons, ih a b (by omega), List.any_cons, List.any_cons]
            have e : isP s t ⟨x.f0, mn x.f1 y.f1⟩ = (isP s t x || isP s t y) := by
              have e0 : y.f0 = x.f0 := by omega
              unfold isP
              rw [mn_le, e0]
              show (x.f0 == s && (decide (x.f1 ≤ t) || decide (y.f1 ≤ t))) = _
              generalize (x.f0 == s) = p
              generalize decide (x.f1 ≤ t) = q
              generalize decide (y.f1 ≤ t) = r
              cases p <;> cases q <;> cases r <;> rfl
            rw [e]
            generalize isP s t x = p
            generalize isP s t y = q
            generalize a.any (isP s t) = r
            generalize b.any (isP s t) = u
            cases p <;> cases q <;> cases r <;> cases u <;> rfl
theorem any_later {s t u : Int} (h : t ≤ u) {l : List R} (hl : l.any (isP s t) = true) : l.any (isP s u) = true := by
  obtain ⟨x, hx, hp⟩ := List.any_eq_true.1 hl
  refine List.any_eq_true.2 ⟨x, hx, ?_⟩
  unfold isP at hp ⊢
  rw [Bool.and_eq_true, decide_eq_true_eq] at hp
  rw [hp.1, decide_eq_true (Int.le_trans hp.2 h)]
  rfl
theorem ok_cons {last : Int} {x : R} {r : List R} : okFrom last (x :: r) = true ↔ (1 ≤ x.f0 ∧ x.f0 ≤ 2147483647 ∧ 0 ≤ x.f1 ∧ x.f1 ≤ 1073741824 ∧ last < x.f0 ∧ okFrom x.f0 r = true) := by
  simp only [okFrom, Bool.and_eq_true, decide_eq_true_eq]
theorem ok_mrg : ∀ (n : Nat) (a b : List R) (last : Int), a.length + b.length ≤ n → okFrom last a = true → okFrom last b = true → okFrom last (mrg a b) = true := by
  intro n
  induction n with
  | zero =>
    intro a b last h h1 h2
    have ha : a = [] := List.length_eq_zero_iff.1 (by omega)
    subst ha
    rw [nil_mrg]
    exact h2
  | succ n ih =>
    intro a b last h h1 h2
    cases a with
    | nil => rw [nil_mrg]; exact h2
    | cons x a =>
      cases b with
      | nil => rw [mrg_nil]; exact h1
      | cons y b =>
        simp only [List.length_cons] at h
        obtain ⟨x1, x2, x3, x4, x5, x6⟩ := ok_cons.1 h1
        obtain ⟨y1, y2, y3, y4, y5, y6⟩ := ok_cons.1 h2
        rw [mrg_cons]
        by_cases c1 : x.f0 < y.f0
        · rw [if_pos c1]
          exact ok_cons.2 ⟨x1, x2, x3, x4, x5, ih a (y :: b) x.f0 (by simp only [List.length_cons]; omega) x6 (ok_cons.2 ⟨y1, y2, y3, y4, c1, y6⟩)⟩
        · by_cases c2 : y.f0 < x.f0
          · rw [if_neg c1, if_pos c2]
            exact ok_cons.2 ⟨y1, y2, y3, y4, y5, ih (x :: a) b y.f0 (by simp only [List.length_cons]; omega) (ok_cons.2 ⟨x1, x2, x3, x4, c2, x6⟩) y6⟩
          · rw [if_neg c1, if_neg c2]
            have e : y.f0 = x.f0 := by omega
            have m := mn_range x3 y3 x4 y4
            exact ok_cons.2 ⟨x1, x2, m.1, m.2, x5, ih a b x.f0 (by omega) x6 (by rw [← e]; exact y6)⟩
end Go.Proofs.Ytkaeoeebagndaaa.Pure
