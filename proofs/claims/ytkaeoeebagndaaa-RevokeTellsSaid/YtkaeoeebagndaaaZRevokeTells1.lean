/- What the proof of RevokeTells is made of, part 1. -/
import Derived.Test.YtkaeoeebagndaaaZRevokeTells0
import Derived.Deep.Slices
import Derived.Deep.Fields
import Derived.ChangeSame
import Derived.RowKit
namespace Go.Proofs.Ytkaeoeebagndaaa.Opk
open Go.ChangeShapes Go.WideShapes Go.Deep Go.RowKit Go.Proofs.YtkaeoeebagndaaaW.PrintWords
set_option linter.unusedVariables false
set_option linter.unusedSimpArgs false
/-- What reads as data of type t has cells of kind d. -/
def Opens {α : Type} (P : Program) (d : Kd α) (t : TypeId) (ok : α → Prop) : Prop :=
 ∀ (H : Type) (enc : TypeId × Value → H) (w : World) (base : Nat) (held : Bool) (fuel : Nat) (cs : List Value) (x : DataW H × List MemPlace),
  DataW.trod enc P w base (fun _ => true) held fuel t cs = some x → ∃ v, d.K w v cs ∧ ok v
theorem opens_int {P : Program} {k : IntKind} {t : TypeId} (hu : P.underlying t = some (.int k)) : Opens P (Kd.int k) t (fun n => (Lit.int k n).wf = true) := by
 intro H enc w base held fuel cs x h
 obtain ⟨n, rfl, _, hw⟩ := DataW.trod_int hu h
 exact ⟨n, rfl, hw⟩
theorem opens_slice {P : Program} {α : Type} [Inhabited α] {d : Kd α} {t e : TypeId} {ok : α → Prop} (hu : P.underlying t = some (.slice e)) (hc : P.cellsOf e = d.sz) (h : Opens P d e ok) :
  Opens P (Kd.slice e d) t (fun l => l.length ≤ maxLen ∧ ∀ x, x ∈ l → ok x) := by
 intro H enc w base held fuel cs x hx
 rcases open_slice hu hx with ⟨rfl, _⟩ | ⟨a, len, cap, m, n, D, Pl, rfl, hb, hl, hm, hmm, _, hi⟩
 ·exact ⟨[], ⟨none, 0, rfl, Nat.le_refl _, rfl, by simp, fun h => absurd h (Nat.lt_irrefl 0)⟩, by simp, fun x hx => by cases hx⟩
 ·have hmm' : len ≤ m := by rw [hmm]; simp; exact hl
  have each : ∀ i, i < len → ∃ v : α, (∃ c, c.length = d.sz ∧ d.K w v c ∧ ∀ q u, c[q]? = some u → w.cell? (a.add (i * d.sz + q)) = some u) ∧ ok v := by
   intro i hil
   obtain ⟨cs', hcell, ht⟩ := hi i (by omega)
   obtain ⟨v, hK, ho⟩ := h H enc w base held n cs' _ ht
   obtain ⟨_, hlen, hat⟩ := World.cells?_some hcell
   refine ⟨v, ⟨cs', d.K_len hK, hK, fun q u hq => ?_⟩, ho⟩
   have hql : q < P.cellsOf e := by rw [← hlen]; exact (List.getElem?_eq_some_iff.1 hq).1
   have := hat q hql
   rw [Go.Deep.add_add, hc] at this
   rw [this, hq]
  obtain ⟨V, hV⟩ := choose_lt each
  refine ⟨(List.range len).map V, ⟨some a, cap, by simp, by simpa using hl, ?_⟩, by simp; omega, fun x hx => ?_⟩
  ·refine ⟨rfl, by simp; unfold maxLen at hm; omega, fun _ => ⟨a, rfl, fun j p hp => ?_⟩⟩
   rw [List.getElem?_map] at hp
   obtain ⟨i, hi', rfl⟩ := Option.map_eq_some_iff.1 hp
   obtain ⟨hj, hji⟩ := List.getElem?_eq_some_iff.1 hi'
   have hj' : j < len := by simpa using hj
   have : i = j := by rw [← hji]; simp
   subst this
   exact (hV i hj').1
  ·obtain ⟨i, hi', rfl⟩ := List.mem_map.1 hx
   exact (hV i (List.mem_range.1 hi')).2
theorem opens_pair {P : Program} {α β γ : Type} {d1 : Kd α} {d2 : Kd β} {t : TypeId} {f1 f2 : Field} {ok1 : α → Prop} {ok2 : β → Prop} (p : γ → α × β) (mk : α → β → γ) (hmk : ∀ a b, p (mk a b) = (a, b))
  (hu : P.underlying t = some (.struct #[f1, f2])) (hone : oneCellFields P #[f1, f2] = true) (hC : P.cellsOf t = 2)
  (h1 : Opens P d1 f1.type ok1) (h2 : Opens P d2 f2.type ok2) : Opens P (Kd.iso (Kd.pair d1 d2) p) t (fun x => ok1 (p x).1 ∧ ok2 (p x).2) := by
 intro H enc w base held fuel cs x hx
 obtain ⟨ys, n, _, _, hlen, hyl, hf⟩ := DataW.trod_struct hu hx
 rw [hC] at hlen
 match cs, hlen with
 | [c0, c1], _ =>
  obtain ⟨o0, k0⟩ := hone_of hone 0 f1 rfl
  obtain ⟨o1, k1⟩ := hone_of hone 1 f2 rfl
  have g0 := hf 0 f1 rfl
  have g1 := hf 1 f2 rfl
  rw [o0, k0] at g0
  rw [o1, k1] at g1
  have hy0 : ys[0]? = some (ys[0]'(by rw [hyl]; simp)) := List.getElem?_eq_getElem _
  have hy1 : ys[1]? = some (ys[1]'(by rw [hyl]; simp)) := List.getElem?_eq_getElem _
  rw [hy0] at g0
  rw [hy1] at g1
  obtain ⟨v0, K0, q0⟩ := h1 H enc w base held n [c0] _ g0
  obtain ⟨v1, K1, q1⟩ := h2 H enc w base held n [c1] _ g1
  refine ⟨mk v0 v1, ?_, by show ok1 (p (mk v0 v1)).1 ∧ ok2 (p (mk v0 v1)).2; rw [hmk]; exact ⟨q0, q1⟩⟩
  show (Kd.pair d1 d2).K w (p (mk v0 v1)) [c0, c1]
  rw [hmk]
  exact ⟨[c0], [c1], rfl, K0, K1⟩
/-- A slice that came in. -/
theorem open_row {H : Type} {enc : TypeId × Value → H} {P : Program} {W : World} {b base : Nat} {held : Bool} {α : Type} {d : Kd α} {t e : TypeId} {ok : α → Prop} (ho : Opens P (Kd.slice e d) t (fun l => l.length ≤ maxLen ∧ ∀ x, x ∈ l → ok x)) (hu : P.underlying t = some (.slice e))
  {v : Value} {dd : DataW H} {p : List MemPlace} (hv : Value.okWide P W .any b t v) (h : DataW.Trod enc P W base (fun _ => true) held t v dd p) :
  ∃ (A : Option Addr) (c : Nat) (l : List α), v = .slice A l.length c ∧ l.length ≤ c ∧ Kd.C d W A l.length l ∧ l.length ≤ maxLen ∧ ∀ x, x ∈ l → ok x := by
 obtain ⟨A, n, c, rfl⟩ := okWide_slice hu hv
 obtain ⟨fuel, hf⟩ := h
 obtain ⟨l, ⟨A', c', he, hl, hC⟩, h1, h2⟩ := ho H enc W base held fuel _ _ hf
 simp [Value.cells] at he
 obtain ⟨rfl, rfl, rfl⟩ := he
 exact ⟨A, c, l, rfl, hl, hC, h1, h2⟩
end Go.Proofs.Ytkaeoeebagndaaa.Opk
