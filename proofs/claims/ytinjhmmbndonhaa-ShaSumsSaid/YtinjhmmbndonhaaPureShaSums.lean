/- ShaSums: the walk in the form that the row asks for. -/
import Derived.Test.YtinjhmmbndonhaaHr
import Derived.ProofKit
import Derived.SizedLaws
import Derived.OpenShut
namespace Go.Proofs.Ytinjhmmbndonhaa.PShaSums
open Go.RowKit Go.ChangeShapes Go.WideShapes Go.Proofs.Ytinjhmmbndonhaa.PShaSums Go.Proofs.YtinjhmmbndonhaaW.PrintWords
set_option linter.unusedVariables false
def okB (b : List Int) : Prop := ∀ x, x ∈ b → 0 ≤ x ∧ x < 256
def nat (l : List Int) : List Nat := l.map Int.toNat
theorem cN_nat {l : List Int} (h : okB l) : cN (nat l) = l := by
  unfold cN nat
  rw [List.map_map]
  conv => rhs; rw [← List.map_id l]
  apply List.map_congr_left
  intro x hx
  have := h x hx
  show ((x.toNat : Nat) : Int) = x
  omega
theorem bs_nat {l : List Int} (h : okB l) : Bs (nat l) := by
  intro i
  unfold nat
  rw [List.getD_eq_getElem?_getD, List.getElem?_map]
  cases e : l[i]? with
  | none => exact Nat.zero_lt_succ _
  | some x =>
    have := h x (List.mem_of_getElem? e)
    show x.toNat < 256
    omega
theorem clapperlaw03_ShaSums.calls (k : Nat) (A0 : Option Addr) (c0 : Nat) (l0 : List Int) (r : Bool) (w : World)
    (hr0 : Kd.C (Kd.int .u8) w A0 l0.length l0) (hc0 : l0.length ≤ c0) (hr_ : r = true) (hk : okB l0) :
    Calls Try.prog 3 #[.slice A0 l0.length c0] w fun e w' => e = .returned (.bool r) ∧ Below w.heap.size w w' := by
  subst hr_
  have h := sums_calls A0 c0 (nat l0) w (by rw [cN_nat hk]; exact hr0) (bs_nat hk)
  rw [cN_nat hk] at h
  exact h
end Go.Proofs.Ytinjhmmbndonhaa.PShaSums
namespace Go.Proofs.Ytinjhmmbndonhaa.Pure
open Go.RowKit Go.ChangeShapes Go.WideShapes Go.ChangeAt Go.Proofs.Ytinjhmmbndonhaa.PShaSums
set_option linter.unusedVariables false
theorem okB_of {l : List Int} (h : ∀ x, x ∈ l → (fun n => (Lit.int .u8 n).wf = true) x) : okB l := fun x hx => by have := bounds_u8 (h x hx); omega
theorem ShaSums (l0 : List Int) (_ : l0.length ≤ maxLen) (h0 : ∀ x, x ∈ l0 → (fun n => (Lit.int .u8 n).wf = true) x) : ∃ k : Nat, okB l0 := ⟨0, okB_of h0⟩
end Go.Proofs.Ytinjhmmbndonhaa.Pure
