/- The plain law of lists of what is revoked: both May, Same, and the two ways to merge. -/
import Derived.Test.YtkaeoeebagndaaaPRevokeBothx
import Derived.OpenShut
namespace Go.Proofs.Ytkaeoeebagndaaa.Pure
open Go.RowKit Go.ChangeShapes Go.WideShapes Go.Proofs.Ytkaeoeebagndaaa.PRevokeBoth Go.Proofs.YtkaeoeebagndaaaW.PrintWords Go.Proofs.YtkaeoeebagndaaaW.PrintLast Go.Proofs.YtkaeoeebagndaaaW.PrintMore
set_option linter.unusedVariables false
set_option linter.unusedSimpArgs false
abbrev R := S43
theorem wrap_id {n : Int} (h0 : -9223372036854775808 ≤ n) (h1 : n ≤ 9223372036854775807) : wrap64 n = n := by unfold wrap64; omega
theorem rdR_eq (l : List R) (i : Nat) (h : i < l.length) : rd_T43 l (i : Int) = l[i] := by
  show l.getD ((i : Int)).toNat _ = _
  simp [List.getD, h]
theorem succ_k {k n : Nat} (h : n < k) : ∃ m, k = m + 1 ∧ n ≤ m := ⟨k - 1, by omega, by omega⟩
theorem drop_at {α : Type} {l : List α} {i : Nat} (h : i < l.length) : l.drop i = l[i] :: l.drop (i + 1) := List.drop_eq_getElem_cons h
def okFrom : Int → List R → Bool
  | _, [] => true
  | last, x :: r => decide (1 ≤ x.f0) && (decide (x.f0 ≤ 2147483647) && (decide (0 ≤ x.f1) && (decide (x.f1 ≤ 1073741824) && (decide (last < x.f0) && okFrom x.f0 r))))
def okL (l : List R) : Bool := okFrom 0 l && decide ((l.length : Int) ≤ 200)
theorem pmay_l0 (l : List R) (hl : l.length ≤ 9223372036854775806) : ∀ (d i k : Nat) (last : Int) (hi : i + d = l.length), d < k → (i = 0 → last = 0) → (∀ h : 0 < i, 1 ≤ last ∧ last = (l[i - 1]'(by omega)).f0) →
    revoke_May.l0 k l l (l.length : Int) (i : Int) = some (okFrom last (l.drop i) && decide ((l.length : Int) ≤ 200)) := by
  intro d
  induction d with
  | zero =>
    intro i k last hi hk _ _
    obtain ⟨k, rfl, hk⟩ := succ_k hk
    simp only [revoke_May.l0]
    rw [if_neg (by omega), List.drop_of_length_le (by omega)]
    simp [okFrom]
  | succ d ih =>
    intro i k last hi hk h0 hp
    obtain ⟨k, rfl, hk⟩ := succ_k hk
    have hlt : i < l.length := by omega
    simp only [revoke_May.l0]
    rw [if_pos (by omega), if_pos (by omega), if_pos (by omega), rdR_eq l i hlt, drop_at hlt]
    simp only [okFrom]
    by_cases h1 : l[i].f0 < 1
    · rw [if_pos h1]; simp [show ¬ 1 ≤ l[i].f0 by omega]
    rw [if_neg h1]
    by_cases h2 : l[i].f0 > 2147483647
    · rw [if_pos h2]; simp [show ¬ l[i].f0 ≤ 2147483647 by omega]
    rw [if_neg h2]
    by_cases h3 : l[i].f1 < 0
    · rw [if_pos h3]; simp [show ¬ 0 ≤ l[i].f1 by omega]
    rw [if_neg h3]
    by_cases h4 : l[i].f1 > 1073741824
    · rw [if_pos h4]; simp [show ¬ l[i].f1 ≤ 1073741824 by omega]
    rw [if_neg h4]
    have next : last < l[i].f0 → revoke_May.l0 k l l (l.length : Int) (wrap64 ((i : Int) + 1)) = some (okFrom l[i].f0 (l.drop (i + 1)) && decide ((l.length : Int) ≤ 200)) := by
      intro hlt2
      rw [wrap_id (by omega) (by omega)]
      exact ih (i + 1) k l[i].f0 (by omega) (by omega) (fun h => by omega) (fun h => ⟨by omega, by simp⟩)
    by_cases hi0 : (i : Int) > 0
    · have hpos : 0 < i := by omega
      obtain ⟨hp1, hp2⟩ := hp hpos
      have e : wrap64 ((i : Int) - 1) = ((i - 1 : Nat) : Int) := by rw [wrap_id (by omega) (by omega)]; omega
      rw [if_pos hi0, e, if_pos (by omega), if_pos (by omega), rdR_eq l (i - 1) (by omega), ← hp2]
      by_cases h5 : last ≥ l[i].f0
      · rw [if_pos h5]; simp [show ¬ last < l[i].f0 by omega]
      · rw [if_neg h5, next (by omega)]
        simp [show 1 ≤ l[i].f0 by omega, show l[i].f0 ≤ 2147483647 by omega, show 0 ≤ l[i].f1 by omega, show l[i].f1 ≤ 1073741824 by omega, show last < l[i].f0 by omega]
    · have hz := h0 (by omega)
      rw [if_neg hi0, next (by omega)]
      simp [show 1 ≤ l[i].f0 by omega, show l[i].f0 ≤ 2147483647 by omega, show 0 ≤ l[i].f1 by omega, show l[i].f1 ≤ 1073741824 by omega, show last < l[i].f0 by omega]
theorem pmay (l : List R) (hl : l.length ≤ 9223372036854775806) (k : Nat) (hk : l.length < k) : revoke_May.f k l = some (okL l) := by
  have := pmay_l0 l hl l.length 0 k 0 (by omega) hk (fun _ => rfl) (fun h => absurd h (Nat.lt_irrefl 0))
  simpa [revoke_May.f, okL] using this
theorem ok_sorted : ∀ {l : List R} {last : Int}, okFrom last l = true → (∀ x, x ∈ l → last < x.f0) ∧ (∀ x, x ∈ l → 1 ≤ x.f0 ∧ x.f0 ≤ 2147483647 ∧ 0 ≤ x.f1 ∧ x.f1 ≤ 1073741824) := by
  intro l
  induction l with
  | nil => intro last _; exact ⟨fun x h => (by cases h), fun x h => (by cases h)⟩
  | cons y r ih =>
    intro last h
    simp only [okFrom, Bool.and_eq_true, decide_eq_true_eq] at h
    obtain ⟨i1, i2⟩ := ih h.2.2.2.2.2
    refine ⟨fun x hx => ?_, fun x hx => ?_⟩
    · rcases List.mem_cons.1 hx with rfl | hx
      · omega
      · have := i1 x hx; omega
    · rcases List.mem_cons.1 hx with rfl | hx
      · omega
      · exact i2 x hx
/-- both lists in one -/
def mrg (a b : List R) : List R :=
  match a, b with
  | [], b => b
  | a, [] => a
  | x :: a, y :: b => if x.f0 < y.f0 then x :: mrg a (y :: b) else if y.f0 < x.f0 then y :: mrg (x :: a) b else ⟨x.f0, mn x.f1 y.f1⟩ :: mrg a b
termination_by a.length + b.length
theorem mrg_nil (a : List R) : mrg a [] = a := by cases a <;> simp [mrg]
theorem nil_mrg (a : List R) : mrg [] a = a := by simp [mrg]
theorem mrg_cons (x y : R) (a b : List R) : mrg (x :: a) (y :: b) = if x.f0 < y.f0 then x :: mrg a (y :: b) else if y.f0 < x.f0 then y :: mrg (x :: a) b else ⟨x.f0, mn x.f1 y.f1⟩ :: mrg a b := by
  rw [mrg]
theorem mrg_len : ∀ (n : Nat) (a b : List R), a.length + b.length ≤ n → (mrg a b).length ≤ a.length + b.length := by
  intro n
  induction n with
  | zero =>
    intro a b h
    have ha : a = [] := List.length_eq_zero_iff.1 (by omega)
    have hb : b = [] := List.length_eq_zero_iff.1 (by omega)
    subst ha hb
    simp [nil_mrg]
  | succ n ih =>
    intro a b h
    cases a with
    | nil => rw [nil_mrg]; simp
    | cons x a =>
      cases b with
      | nil => rw [mrg_nil]; simp
      | cons y b =>
        simp only [List.length_cons] at h
        rw [mrg_cons]
        split
        · have := ih a (y :: b) (by simp only [List.length_cons]; omega)
          simp only [List.length_cons] at *; omega
        · split
          · have := ih (x :: a) b (by simp only [List.length_cons]; omega)
            simp only [List.length_cons] at *; omega
          · have := ih a b (by omega)
            simp only [List.length_cons] at *; omega
theorem pmerge_l0 : ∀ (n : Nat) (a b out : List R) (k : Nat), a.length + b.length ≤ n → 2 * n + 1 < k → a.length ≤ 1000 → b.length ≤ 1000 → out.length + n ≤ 5000 →
    revoke_Merge.l0 k a b out = some (if ((out ++ mrg a b).length : Int) > 200 then ([], some 3) else (out ++ mrg a b, none)) := by
  intro n
  induction n with
  | zero =>
    intro a b out k h hk _ _ _
    have ha : a = [] := List.length_eq_zero_iff.1 (by omega)
    have hb : b = [] := List.length_eq_zero_iff.1 (by omega)
    subst ha hb
    obtain ⟨k, rfl, hk⟩ := succ_k hk
    simp only [revoke_Merge.l0]
    rw [if_neg (by simp [wrap64])]
    rw [nil_mrg, List.append_nil]
    by_cases hg : (out.length : Int) > 200
    · rw [if_pos hg, if_pos hg]
    · rw [if_neg hg, if_neg hg]
  | succ n ih =>
    intro a b out k h hk ha hb ho
    by_cases hz : a.length + b.length = 0
    · exact ih a b out k (by omega) (by omega) ha hb (by omega)
    obtain ⟨k, rfl, hk2⟩ := succ_k (show 2 * n + 2 < k by omega)
    obtain ⟨k, rfl, hk3⟩ := succ_k (show 2 * n + 1 < k by omega)
    simp only [revoke_Merge.l0]
    rw [if_pos (by rw [wrap_id (by omega) (by omega)]; omega)]
    cases a with
    | nil =>
      cases b with
      | nil => simp at hz
      | cons y b =>
        simp only [List.length_cons, List.length_nil] at *
        rw [if_neg (by omega), if_neg (by omega)]
        simp only [revoke_Merge.j2]
        rw [if_neg (by simp), if_pos (by simp), if_pos (by simp only [List.length_cons]; omega), if_pos (by omega), if_pos (by simp only [List.length_cons]; omega)]
        have e : (⟨(rd_T43 (y :: b) 0).f0, (rd_T43 (y :: b) 0).f1⟩ : R) = y := rfl
        rw [e]
        have := ih [] b (out ++ [y]) k (by simp; omega) (by omega) (by simp) (by omega) (by simp; omega)
        simp only [List.drop_succ_cons, List.drop_zero]
        rw [this, nil_mrg, nil_mrg]
        simp
    | cons x a =>
      cases b with
      | nil =>
        simp only [List.length_cons, List.length_nil] at *
        rw [if_pos (by simp)]
        simp only [revoke_Merge.j2]
        rw [if_pos trivial, if_pos (by simp only [List.length_cons]; omega), if_pos (by omega), if_pos (by simp only [List.length_cons]; omega)]
        have e : (⟨(rd_T43 (x :: a) 0).f0, (rd_T43 (x :: a) 0).f1⟩ : R) = x := rfl
        rw [e]
        have := ih a [] (out ++ [x]) k (by simp; omega) (by omega) (by omega) (by simp) (by simp; omega)
        simp only [List.drop_succ_cons, List.drop_zero]
        rw [this, mrg_nil, mrg_nil]
        simp
      | cons y b =>
        simp only [List.length_cons] at h ha hb hz
        rw [if_neg (by simp only [List.length_cons]; omega), if_pos (by simp only [List.length_cons]; omega), if_pos (by simp only [List.length_cons]; omega), if_pos (by simp only [List.length_cons]; omega)]
        have ex : rd_T43 (x :: a) 0 = x := rfl
        have ey : rd_T43 (y :: b) 0 = y := rfl
        rw [ex, ey, mrg_cons]
        simp only [revoke_Merge.j2]
        rw [ex, ey]
        by_cases h1 : x.f0 < y.f0
        · rw [if_pos h1, decide_eq_true h1, if_pos rfl, if_pos (by simp only [List.length_cons]; omega), if_pos (by omega), if_pos (by simp only [List.length_cons]; omega)]
          have := ih a (y :: b) (out ++ [x]) k (by simp only [List.length_cons]; omega) (by omega) (by omega) (by simp only [List.length_cons]; omega) (by simp; omega)
          simp only [List.drop_succ_cons, List.drop_zero]
          rw [this]
          simp
        · rw [if_neg h1, decide_eq_false h1, if_neg (by simp), if_neg (by simp only [List.length_cons]; omega), if_pos (by simp only [List.length_cons]; omega), if_pos (by simp only [List.length_cons]; omega)]
          by_cases h2 : y.f0 < x.f0
          · rw [if_pos h2, if_pos h2, if_pos (by omega), if_pos (by simp only [List.length_cons]; omega)]
            have := ih (x :: a) b (out ++ [y]) k (by simp only [List.length_cons]; omega) (by omega) (by simp only [List.length_cons]; omega) (by omega) (by simp; omega)
            simp only [List.drop_succ_cons, List.drop_zero]
            rw [this]
            simp
          · rw [if_neg h2, if_neg h2, if_pos (by omega), if_pos (by simp only [List.length_cons]; omega), if_pos (by simp only [List.length_cons]; omega)]
            have := ih a b (out ++ [⟨x.f0, mn x.f1 y.f1⟩]) k (by omega) (by omega) (by omega) (by omega) (by simp; omega)
            simp only [List.drop_succ_cons, List.drop_zero]
            rw [this]
            simp
def mergeR (a b : List R) : List R × Option Int :=
  if okL a = true ∧ okL b = true then (if ((mrg a b).length : Int) > 200 then ([], some 3) else (mrg a b, none)) else ([], some 1)
theorem ok_len {l : List R} (h : okL l = true) : okFrom 0 l = true ∧ l.length ≤ 200 := by
  have : okFrom 0 l = true ∧ (l.length : Int) ≤ 200 := by simpa [okL] using h
  exact ⟨this.1, by omega⟩
theorem pmerge (a b : List R) (ha : a.length ≤ 9223372036854775806) (hb : b.length ≤ 9223372036854775806) (k : Nat) (hk : a.length < k) (hk2 : b.length < k) (hk3 : 2000 ≤ k) : revoke_Merge.f k a b = some (mergeR a b) := by
  unfold revoke_Merge.f mergeR
  rw [pmay a ha k hk]
  simp only [Option.bind_some]
  obtain ⟨k, rfl, hk4⟩ := succ_k (show 1999 < k by omega)
  by_cases hoa : okL a = true
  · rw [if_pos hoa, pmay b hb (k + 1) hk2]
    simp only [Option.bind_some, revoke_Merge.j0]
    by_cases hob : okL b = true
    · have l1 := ok_len hoa
      have l2 := ok_len hob
      rw [if_neg (by simp [hob]), if_pos ⟨hoa, hob⟩, pmerge_l0 (a.length + b.length) a b [] k (by omega) (by omega) (by omega) (by omega) (by simp; omega)]
      simp
    · rw [if_pos (by simpa using hob), if_neg (fun h => hob h.2)]
  · rw [if_neg hoa, if_neg (fun h => hoa h.1)]
    simp only [revoke_Merge.j0]
    rw [if_pos trivial]
theorem rsame_l0 (l : List R) (hl : l.length ≤ 9223372036854775806) : ∀ (d i k : Nat), i + d = l.length → d < k → clapperref11_Same.l0 k l l (i : Int) = some true := by
  intro d
  induction d with
  | zero =>
    intro i k hi hk
    obtain ⟨k, rfl, hk⟩ := succ_k hk
    simp only [clapperref11_Same.l0]
    rw [if_neg (by omega)]
  | succ d ih =>
    intro i k hi hk
    obtain ⟨k, rfl, hk⟩ := succ_k hk
    simp only [clapperref11_Same.l0]
    rw [if_pos (by omega), if_pos (by omega), if_pos (by omega), if_neg (by simp), wrap_id (by omega) (by omega)]
    exact ih (i + 1) k (by omega) (by omega)
theorem rsame (l : List R) (hl : l.length ≤ 9223372036854775806) (k : Nat) (hk : l.length < k) : clapperref11_Same.f k l l = some true := by
  unfold clapperref11_Same.f
  rw [if_pos rfl]
  exact rsame_l0 l hl l.length 0 k (by omega) hk
theorem up_ok (k : Nat) (hk : 5 ≤ k) : clapperlaw11_up.f k = some true := by
  unfold clapperlaw11_up.f revoke_Is.f
  simp only [Option.bind_some]
  rw [pmay _ (by simp) k (by simp; omega)]
  rfl
end Go.Proofs.Ytkaeoeebagndaaa.Pure
