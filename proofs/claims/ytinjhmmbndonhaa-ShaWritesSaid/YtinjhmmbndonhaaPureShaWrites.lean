/- ShaWrites: the walk in the form that the row asks for. -/
import Derived.Test.YtinjhmmbndonhaaHs
import Derived.ProofKit
import Derived.SizedLaws
import Derived.OpenShut
namespace Go.Proofs.Ytinjhmmbndonhaa.PShaWrites
open Go.RowKit Go.ChangeShapes Go.WideShapes Go.Proofs.Ytinjhmmbndonhaa.PShaSums Go.Proofs.YtinjhmmbndonhaaW.PrintWords
set_option linter.unusedVariables false
def okB (b : List Int) : Prop := ∀ x, x ∈ b → 0 ≤ x ∧ x < 256
def nat (l : List Int) : List Nat := l.map Int.toNat
theorem cN_nat {l : List Int} (h : okB l) : cN (nat l) = l := by
  unfold cN nat
  rw [List.map_map]
  conv => rhs; rw [← List.map_id l]
  apply List.map_congr_left
  intro x hx
  have := h x hx
  show ((x.toNat : Nat) : Int) = x
  omega
theorem bs_nat {l : List Int} (h : okB l) : Bs (nat l) := by
  intro i
  unfold nat
  rw [List.getD_eq_getElem?_getD, List.getElem?_map]
  cases e : l[i]? with
  | none => exact Nat.zero_lt_succ _
  | some x =>
    have := h x (List.mem_of_getElem? e)
    show x.toNat < 256
    omega
def okR (l : List (List Int)) : Prop := ∀ x, x ∈ l → okB x
theorem rows_nat {l : List (List Int)} (h : okR l) : (l.map nat).map cN = l := by
  rw [List.map_map]
  conv => rhs; rw [← List.map_id l]
  apply List.map_congr_left
  intro x hx
  exact cN_nat (h x hx)
theorem clapperlaw03_ShaWrites.calls (k : Nat) (A0 : Option Addr) (c0 : Nat) (l0 : List (List Int)) (r : Bool) (w : World)
    (hr0 : Kd.C (Kd.slice 5 (Kd.int .u8)) w A0 l0.length l0) (hc0 : l0.length ≤ c0) (hr_ : r = true) (hk : okR l0) :
    Calls Try.prog 4 #[.slice A0 l0.length c0] w fun e w' => e = .returned (.bool r) ∧ Below w.heap.size w w' := by
  subst hr_
  have h := writes_calls A0 c0 (l0.map nat) w (by rw [rows_nat hk]; exact hr0) (fun x hx => by
    obtain ⟨y, hy, rfl⟩ := List.mem_map.1 hx
    exact bs_nat (hk y hy))
  rw [rows_nat hk] at h
  exact h
end Go.Proofs.Ytinjhmmbndonhaa.PShaWrites
namespace Go.Proofs.Ytinjhmmbndonhaa.Pure
open Go.RowKit Go.ChangeShapes Go.WideShapes Go.ChangeAt Go.Proofs.Ytinjhmmbndonhaa.PShaWrites
set_option linter.unusedVariables false
theorem okB_of {l : List Int} (h : ∀ x, x ∈ l → (fun n => (Lit.int .u8 n).wf = true) x) : okB l := fun x hx => by have := bounds_u8 (h x hx); omega
theorem ShaWrites (l0 : List (List Int)) (_ : l0.length ≤ maxLen) (h0 : ∀ x, x ∈ l0 → (fun l => l.length ≤ maxLen ∧ ∀ x, x ∈ l → (Lit.int .u8 x).wf = true) x) : ∃ k : Nat, okR l0 := ⟨0, fun x hx => okB_of (h0 x hx).2⟩
end Go.Proofs.Ytinjhmmbndonhaa.Pure
