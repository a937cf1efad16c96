/- MacCodes: the walk in the form that the row asks for. -/
import Derived.Test.YtinjhmmbndonhaaMh
import Derived.ProofKit
import Derived.SizedLaws
import Derived.OpenShut
namespace Go.Proofs.Ytinjhmmbndonhaa.PMacCodes
open Go.RowKit Go.ChangeShapes Go.WideShapes Go.Proofs.Ytinjhmmbndonhaa.PShaSums Go.Proofs.YtinjhmmbndonhaaW.PrintWords
set_option linter.unusedVariables false
def okB (b : List Int) : Prop := ∀ x, x ∈ b → 0 ≤ x ∧ x < 256
def nat (l : List Int) : List Nat := l.map Int.toNat
theorem cN_nat {l : List Int} (h : okB l) : cN (nat l) = l := by
  unfold cN nat
  rw [List.map_map]
  conv => rhs; rw [← List.map_id l]
  apply List.map_congr_left
  intro x hx
  have := h x hx
  show ((x.toNat : Nat) : Int) = x
  omega
theorem bs_nat {l : List Int} (h : okB l) : Bs (nat l) := by
  intro i
  unfold nat
  rw [List.getD_eq_getElem?_getD, List.getElem?_map]
  cases e : l[i]? with
  | none => exact Nat.zero_lt_succ _
  | some x =>
    have := h x (List.mem_of_getElem? e)
    show x.toNat < 256
    omega
def okR (l : List (List Int)) : Prop := ∀ x, x ∈ l → okB x
theorem rows_nat {l : List (List Int)} (h : okR l) : (l.map nat).map cN = l := by
  rw [List.map_map]
  conv => rhs; rw [← List.map_id l]
  apply List.map_congr_left
  intro x hx
  exact cN_nat (h x hx)
theorem clapperlaw04_MacCodes.calls (k : Nat) (A0 : Option Addr) (c0 : Nat) (l0 : List Int) (A1 : Option Addr) (c1 : Nat) (l1 : List (List Int)) (A2 : Option Addr) (c2 : Nat) (l2 : List Int) (A3 : Option Addr) (c3 : Nat) (l3 : List Int) (r : Bool) (w : World)
    (hr0 : Kd.C (Kd.int .u8) w A0 l0.length l0) (hc0 : l0.length ≤ c0) (hr1 : Kd.C (Kd.slice 5 (Kd.int .u8)) w A1 l1.length l1) (hc1 : l1.length ≤ c1) (hr2 : Kd.C (Kd.int .u8) w A2 l2.length l2) (hc2 : l2.length ≤ c2) (hr3 : Kd.C (Kd.int .u8) w A3 l3.length l3) (hc3 : l3.length ≤ c3) (hr_ : r = true) (hk : okB l0 ∧ okR l1 ∧ okB l2 ∧ okB l3) :
    Calls Try.prog 7 #[.slice A0 l0.length c0, .slice A1 l1.length c1, .slice A2 l2.length c2, .slice A3 l3.length c3] w fun e w' => e = .returned (.bool r) ∧ Below w.heap.size w w' := by
  subst hr_
  obtain ⟨h0, h1, h2, h3⟩ := hk
  have h := mcodes_calls A0 c0 (nat l0) A1 c1 (l1.map nat) A2 c2 (nat l2) A3 c3 (nat l3) w (by rw [cN_nat h0]; exact hr0) (by rw [rows_nat h1]; exact hr1) (by rw [cN_nat h2]; exact hr2) (by rw [cN_nat h3]; exact hr3) (bs_nat h0) (fun x hx => by
    obtain ⟨y, hy, rfl⟩ := List.mem_map.1 hx
    exact bs_nat (h1 y hy)) (bs_nat h2) (bs_nat h3)
  rw [cN_nat h0, rows_nat h1, cN_nat h2, cN_nat h3] at h
  exact h
end Go.Proofs.Ytinjhmmbndonhaa.PMacCodes
namespace Go.Proofs.Ytinjhmmbndonhaa.Pure
open Go.RowKit Go.ChangeShapes Go.WideShapes Go.ChangeAt Go.Proofs.Ytinjhmmbndonhaa.PMacCodes
set_option linter.unusedVariables false
theorem okB_of {l : List Int} (h : ∀ x, x ∈ l → (fun n => (Lit.int .u8 n).wf = true) x) : okB l := fun x hx => by have := bounds_u8 (h x hx); omega
theorem MacCodes (l0 : List Int) (_ : l0.length ≤ maxLen) (h0 : ∀ x, x ∈ l0 → (fun n => (Lit.int .u8 n).wf = true) x) (l1 : List (List Int)) (_ : l1.length ≤ maxLen) (h1 : ∀ x, x ∈ l1 → (fun l => l.length ≤ maxLen ∧ ∀ x, x ∈ l → (Lit.int .u8 x).wf = true) x) (l2 : List Int) (_ : l2.length ≤ maxLen) (h2 : ∀ x, x ∈ l2 → (fun n => (Lit.int .u8 n).wf = true) x) (l3 : List Int) (_ : l3.length ≤ maxLen) (h3 : ∀ x, x ∈ l3 → (fun n => (Lit.int .u8 n).wf = true) x) : ∃ k : Nat, okB l0 ∧ okR l1 ∧ okB l2 ∧ okB l3 := ⟨0, okB_of h0, fun x hx => okB_of (h1 x hx).2, okB_of h2, okB_of h3⟩
end Go.Proofs.Ytinjhmmbndonhaa.Pure
