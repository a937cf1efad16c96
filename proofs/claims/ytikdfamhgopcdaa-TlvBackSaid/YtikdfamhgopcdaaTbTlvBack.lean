/- .. what the reference's Same tells of two rows that are one. -/
import Derived.Test.YtikdfamhgopcdaaTaTlvBack
namespace Go.Proofs.Ytikdfamhgopcdaa.Pure
open Go.RowKit Go.ChangeShapes Go.WideShapes Go.Proofs.Ytikdfamhgopcdaa.PTlvBack Go.Proofs.YtikdfamhgopcdaaW.PrintWords Go.Proofs.YtikdfamhgopcdaaW.PrintLast
set_option linter.unusedVariables false
set_option linter.unusedSimpArgs false
theorem same_l0 (l : List S) (hl : l.length ≤ 9223372036854775806) : ∀ (d i k : Nat), i + d = l.length → d < k → clapperref08_Same.l0 k l l (i : Int) = some true := by
  intro d
  induction d with
  | zero =>
    intro i k hi hk
    obtain ⟨k, rfl, hk⟩ := succ_k hk
    simp only [clapperref08_Same.l0]
    rw [if_neg (by omega)]
  | succ d ih =>
    intro i k hi hk
    obtain ⟨k, rfl, hk⟩ := succ_k hk
    simp only [clapperref08_Same.l0]
    rw [if_pos (by omega), if_pos (by omega), if_pos (by omega)]
    simp only [if_true]
    rw [wrap_id (by omega) (by omega)]
    exact ih (i + 1) k (by omega) (by omega)
theorem same (l : List S) (hl : l.length ≤ 9223372036854775806) (k : Nat) (hk : l.length < k) : clapperref08_Same.f k l l = some true := by
  unfold clapperref08_Same.f
  rw [if_pos rfl]
  exact same_l0 l hl l.length 0 k (by omega) hk
theorem parse_len : ∀ (n : Nat) (b : List Int) (r : List S), parse n b = some r → 3 * r.length ≤ b.length := by
  intro n
  induction n with
  | zero => intro b r h; simp [parse] at h
  | succ n ih =>
    intro b r h
    match b with
    | [] => simp [parse] at h; subst h; simp
    | [_] => simp [parse] at h
    | [_, _] => simp [parse] at h
    | t :: hh :: l :: q =>
      simp only [parse] at h
      split at h
      · obtain ⟨x, hx, rfl⟩ := Option.map_eq_some_iff.1 h
        have := ih _ _ hx
        rw [List.length_drop] at this
        simp only [List.length_cons]
        omega
      · cases h
end Go.Proofs.Ytikdfamhgopcdaa.Pure
