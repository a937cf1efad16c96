/- MacParts: the walk in the form that the row asks for. -/
import Derived.Test.YtinjhmmbndonhaaMe
import Derived.ProofKit
import Derived.SizedLaws
import Derived.OpenShut
namespace Go.Proofs.Ytinjhmmbndonhaa.PMacParts
open Go.RowKit Go.ChangeShapes Go.WideShapes Go.Proofs.Ytinjhmmbndonhaa.PShaSums Go.Proofs.YtinjhmmbndonhaaW.PrintWords
set_option linter.unusedVariables false
def okB (b : List Int) : Prop := ∀ x, x ∈ b → 0 ≤ x ∧ x < 256
def nat (l : List Int) : List Nat := l.map Int.toNat
theorem cN_nat {l : List Int} (h : okB l) : cN (nat l) = l := by
  unfold cN nat
  rw [List.map_map]
  conv => rhs; rw [← List.map_id l]
  apply List.map_congr_left
  intro x hx
  have := h x hx
  show ((x.toNat : Nat) : Int) = x
  omega
theorem bs_nat {l : List Int} (h : okB l) : Bs (nat l) := by
  intro i
  unfold nat
  rw [List.getD_eq_getElem?_getD, List.getElem?_map]
  cases e : l[i]? with
  | none => exact Nat.zero_lt_succ _
  | some x =>
    have := h x (List.mem_of_getElem? e)
    show x.toNat < 256
    omega
theorem clapperlaw04_MacParts.calls (k : Nat) (A0 : Option Addr) (c0 : Nat) (l0 : List Int) (A1 : Option Addr) (c1 : Nat) (l1 : List Int) (a2 : Int) (r : Bool) (w : World)
    (hr0 : Kd.C (Kd.int .u8) w A0 l0.length l0) (hc0 : l0.length ≤ c0) (hr1 : Kd.C (Kd.int .u8) w A1 l1.length l1) (hc1 : l1.length ≤ c1) (hr_ : r = true) (hk : okB l0 ∧ okB l1) :
    Calls Try.prog 8 #[.slice A0 l0.length c0, .slice A1 l1.length c1, .int .i64 a2] w fun e w' => e = .returned (.bool r) ∧ Below w.heap.size w w' := by
  subst hr_
  obtain ⟨h0, h1⟩ := hk
  have h := mparts_calls A0 c0 (nat l0) A1 c1 (nat l1) a2 w (by rw [cN_nat h0]; exact hr0) (by rw [cN_nat h1]; exact hr1) (by rw [cN_nat h1]; exact hc1) (bs_nat h0) (bs_nat h1)
  rw [cN_nat h0, cN_nat h1] at h
  exact h
end Go.Proofs.Ytinjhmmbndonhaa.PMacParts
namespace Go.Proofs.Ytinjhmmbndonhaa.Pure
open Go.RowKit Go.ChangeShapes Go.WideShapes Go.ChangeAt Go.Proofs.Ytinjhmmbndonhaa.PMacParts
set_option linter.unusedVariables false
theorem okB_of {l : List Int} (h : ∀ x, x ∈ l → (fun n => (Lit.int .u8 n).wf = true) x) : okB l := fun x hx => by have := bounds_u8 (h x hx); omega
theorem MacParts (l0 : List Int) (_ : l0.length ≤ maxLen) (h0 : ∀ x, x ∈ l0 → (fun n => (Lit.int .u8 n).wf = true) x) (l1 : List Int) (_ : l1.length ≤ maxLen) (h1 : ∀ x, x ∈ l1 → (fun n => (Lit.int .u8 n).wf = true) x) (a2 : Int) (_ : (Lit.int .i64 a2).wf = true) : ∃ k : Nat, okB l0 ∧ okB l1 := ⟨0, okB_of h0, okB_of h1⟩
end Go.Proofs.Ytinjhmmbndonhaa.Pure
