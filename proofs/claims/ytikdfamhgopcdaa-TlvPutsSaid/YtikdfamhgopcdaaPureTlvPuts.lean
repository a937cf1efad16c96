/- TlvPuts, the plain law: the printed functions answer true for every input. -/
import Derived.Test.YtikdfamhgopcdaaTcTlvPuts
namespace Go.Proofs.Ytikdfamhgopcdaa.Pure
open Go.RowKit Go.ChangeShapes Go.WideShapes Go.Proofs.Ytikdfamhgopcdaa.PTlvPuts Go.Proofs.YtikdfamhgopcdaaW.PrintWords Go.Proofs.YtikdfamhgopcdaaW.PrintLast
set_option linter.unusedVariables false
set_option linter.unusedSimpArgs false
theorem TlvPuts (l0 : List S63) (hm0 : l0.length ≤ maxLen) (hw0 : ∀ x, x ∈ l0 → (fun x => (Lit.int .i64 x.f0).wf = true ∧ x.f1.length ≤ maxLen ∧ ∀ y, y ∈ x.f1 → (Lit.int .u8 y).wf = true) x) (l1 : List Int) (hm1 : l1.length ≤ maxLen) (hw1 : ∀ x, x ∈ l1 → (fun n => (Lit.int .u8 n).wf = true) x) : ∃ k, clapperlaw08_TlvPuts.f k l0 l1 = some true := by
  obtain ⟨k, hk⟩ : ∃ k : Nat, 200000 ≤ k := ⟨200000, Nat.le_refl _⟩
  refine ⟨k + 2, ?_⟩
  unfold clapperlaw08_TlvPuts.f clapperlaw08_up.f
  simp only [Option.bind_some]
  by_cases h300 : (l0.length : Int) > 300
  · rw [if_pos h300]
    simp [clapperlaw08_TlvPuts.j0]
  rw [if_neg h300]
  simp only [clapperlaw08_TlvPuts.j0]
  by_cases h7 : (l1.length : Int) > 70000
  · simp [h7]
  rw [decide_eq_false h7]
  rw [if_neg (by simp), tput l0 (by omega) (k + 1) (by omega), rmay l0 (by omega) (k + 1) (by omega), tmay l0 (by omega) (k + 1) (by omega)]
  simp only [Option.bind_some]
  have hb := okB_of hw1
  have tail : clapperlaw08_TlvPuts.j1 (k + 1) l1 true false = some true := by
    simp only [clapperlaw08_TlvPuts.j1]
    rw [if_neg (by simp), tget l1 k (by omega) hb (by omega), rget l1 hb (by omega) k (by omega)]
    simp only [Option.bind_some]
    cases hd : dec l1 with
    | none => simp [rgetR, getR]
    | some r =>
      have hlen := parse_len _ _ _ hd
      simp only [rgetR, getR, List.nil_append]
      by_cases hm : may r = true
      · simp [hm, same r (by omega) k (by omega)]
      · simp [hm]
  have e : (may l0 != may l0) = false := by simp
  rw [e, if_neg (by simp)]
  by_cases hm : may l0 = true
  · simp only [putR, hm, if_true]
    simp [rput l0 hm (k + 1) (by omega), tail]
  · simp only [putR, hm]
    simp [tail]
end Go.Proofs.Ytikdfamhgopcdaa.Pure
