/- Short names for what the walks say often. -/
import Derived.Calls
namespace Go.Proofs.Ytkaeoeebagndaaa
/-- the bits of m, n of them -/
def bl : Nat → Nat → List Bool
  | 0, _ => []
  | n + 1, m => Nat.beq (m % 2) 1 :: bl n (m / 2)
def bs (n m : Nat) : Array Bool := ⟨bl n m⟩
theorem aS : (∀ (a : Act) (t : Tmp) (v : Value), a.put (some t) v = { a with tmps := a.tmps.setIfInBounds t v }) ∧ (∀ (a : Act) (v : Value), a.put none v = a) ∧ (∀ (l : List Value) (i : Nat) (a : Value), l.toArray.setIfInBounds i a = (l.set i a).toArray) ∧
    (∀ (x : Value) (xs : List Value) (a : Value), (x :: xs).set 0 a = a :: xs) ∧ (∀ (x : Value) (xs : List Value) (i : Nat) (a : Value), (x :: xs).set (i + 1) a = x :: xs.set i a) :=
  ⟨fun _ _ _ => rfl, fun _ _ => rfl, fun _ _ _ => List.setIfInBounds_toArray .., fun _ _ _ => rfl, fun _ _ _ _ => rfl⟩
end Go.Proofs.Ytkaeoeebagndaaa
