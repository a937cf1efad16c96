/- What the proof of PointMultiples is made of, part 12. -/
import Derived.Test.YtkfjhndofbmhoaaZPointMultiples0
import Derived.Deep.RegionWith
namespace Go.Proofs.Ytkfjhndofbmhoaa
open Go.RowKit
set_option linter.unusedVariables false
set_option linter.unusedSimpArgs false
/-- The returned number lies in a cell of the frame. -/
theorem results_num {fn : Func} {t : Tmp} {tmps : Array Value} {w : World} {g r : Nat} (h : fn.results = #[.cell t 24]) (ht : tmps[t]?.getD undef = .pointer (some ⟨g, 0, none⟩))
  (hr : Rw w 24 g [.int .u64 (wd0 r : Nat), .int .u64 (wd1 r : Nat), .int .u64 (wd2 r : Nat), .int .u64 (wd3 r : Nat)]) : (results fn tmps).run Try.prog w = .ok (numV r) w := by
 obtain ⟨c0, c1, c2, c3⟩ := hr.four
 rw [numV_def]
 simp [results, h, ht, go_sem, c0, c1, c2, c3]
theorem Rw.set4 {w : World} {e : TypeId} {g : Nat} {x0 x1 x2 x3 y0 y1 y2 y3 : Value} (h : Rw w e g [x0, x1, x2, x3]) :
  Rw ((((w.setCell ⟨g, 0, none⟩ y0).setCell ⟨g, 1, none⟩ y1).setCell ⟨g, 2, none⟩ y2).setCell ⟨g, 3, none⟩ y3) e g [y0, y1, y2, y3] := (((h.set 0 y0).set 1 y1).set 2 y2).set 3 y3
theorem Rw.other4 {w : World} {e : TypeId} {g g' : Nat} {xs : List Value} {y0 y1 y2 y3 : Value} (h : Rw w e g xs) (hn : g ≠ g') :
  Rw ((((w.setCell ⟨g', 0, none⟩ y0).setCell ⟨g', 1, none⟩ y1).setCell ⟨g', 2, none⟩ y2).setCell ⟨g', 3, none⟩ y3) e g xs :=
 (((h.set_other (a := ⟨g', 0, none⟩) hn y0).set_other (a := ⟨g', 1, none⟩) hn y1).set_other (a := ⟨g', 2, none⟩) hn y2).set_other (a := ⟨g', 3, none⟩) hn y3
/-- From here on of the world only this is known. -/
theorem wp_forget {P : Program} {c : Code} {Q : Exit → Act → World → Prop} {a : Act} {w : World} (R : World → Prop) (h : R w) (k : ∀ w', R w' → c.wp P Q a w') : c.wp P Q a w := k w h
end Go.Proofs.Ytkfjhndofbmhoaa
