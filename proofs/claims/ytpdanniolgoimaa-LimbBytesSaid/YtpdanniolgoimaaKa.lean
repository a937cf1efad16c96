/- Small words on worlds for the laws' walks. -/
import Derived.Test.YtpdanniolgoimaaRa
import Derived.Deep.RegionHeld3
namespace Go.Proofs.Ytpdanniolgoimaa
open Go.RowKit
set_option linter.unusedVariables false
set_option linter.unusedSimpArgs false
theorem keeps {X w' : World} (hb : Below X.heap.size X w') {a : Addr} {v : Value} (h : X.cell? a = some v) : w'.cell? a = some v := (hb.cell (World.block_lt_of_cell? _ _ h)).trans h
theorem keeps_alloc {X : World} {a : Addr} {v : Value} {o : Obj} (h : X.cell? a = some v) : (X.alloc o).cell? a = some v := (World.cell?_alloc_lt _ _ _ (World.block_lt_of_cell? _ _ h)).trans h
/-- A number lies in a block. -/
def NumAt (w : World) (g : Nat) (n : Nat) : Prop := Rw w 24 g [.int .u64 (wd0 n : Nat), .int .u64 (wd1 n : Nat), .int .u64 (wd2 n : Nat), .int .u64 (wd3 n : Nat)]
theorem NumAt.four {w : World} {g n : Nat} (h : NumAt w g n) : w.cell? ⟨g, 0, none⟩ = some (.int .u64 (wd0 n : Nat)) ∧ w.cell? ⟨g, 1, none⟩ = some (.int .u64 (wd1 n : Nat)) ∧ w.cell? ⟨g, 2, none⟩ = some (.int .u64 (wd2 n : Nat)) ∧ w.cell? ⟨g, 3, none⟩ = some (.int .u64 (wd3 n : Nat)) := Rw.four h
theorem NumAt.below {w w' : World} {g n : Nat} (h : NumAt w g n) (hb : Below w.heap.size w w') : NumAt w' g n := Rw.below h hb (Rw.size h)
theorem NumAt.alloc {w : World} {g n : Nat} (h : NumAt w g n) (o : Obj) : NumAt (w.alloc o) g n := Rw.alloc h o
theorem NumAt.new {w : World} {g n : Nat} (hg : g = w.heap.size) : NumAt (w.alloc (.cells #[.int .u64 (wd0 n : Nat), .int .u64 (wd1 n : Nat), .int .u64 (wd2 n : Nat), .int .u64 (wd3 n : Nat)] 24)) g n := Rw.new hg
theorem NumAt.size {w : World} {g n : Nat} (h : NumAt w g n) : g < w.heap.size := Rw.size h
/-- A call has left all that was there. -/
theorem Below.both {w X w' : World} (h : Below w.heap.size w X) (hb : Below X.heap.size X w') : Below w.heap.size w w' := h.trans (hb.mono h.size)
theorem seen {W X w' : World} (h : Below W.heap.size W X) (hb : Below X.heap.size X w') : (∀ b o, b < W.heap.size → w'.cell? ⟨b, o, none⟩ = W.cell? ⟨b, o, none⟩) ∧ Below W.heap.size W w' :=
  have hB := Below.both h hb
  ⟨fun b o hlt => hB.cell (p := ⟨b, o, none⟩) hlt, hB⟩
/-- 'wpAnyH_take', the slot written out. -/
theorem take_at {P : Program} {md : Region.Mode} {ops : Array Oper} {Q : Exit → Act → World → Prop} {S : World → Prop} {i : Nat} (d : Option Tmp) {oi : Oper} {v : Value} {fuel : Nat} {listed : Array Bool} {a : Act} {w : World} (hi : ops[i]? = some oi) (hd : oi.dst = d)
    (hs : Region.noSelect ops = true) (hf : Region.free md ops listed i = true) (hr : (Region.ready md ops listed).contains i = true)
    (hQ : ∀ c a w, Q (.panic c) (a.put d v) w → Q (.panic c) a w) (hy : YieldsIf P ops S oi v a) (hS : S w)
    (h : wpAnyH P md ops Q S fuel (listed.setIfInBounds i true) (a.put d v) w) : wpAnyH P md ops Q S (fuel + 1) listed a w := by
  subst hd
  exact wpAnyH_take hi hs hf hr hQ hy hS h
/-- From here on more is held. -/
theorem wpAnyH_mono {P : Program} {md : Region.Mode} {ops : Array Oper} {Q : Exit → Act → World → Prop} {S S2 : World → Prop} (h : ∀ w, S2 w → S w) :
    ∀ (fuel : Nat) (listed : Array Bool) (a : Act) (w : World), wpAnyH P md ops Q S2 fuel listed a w → wpAnyH P md ops Q S fuel listed a w
  | 0, _, _, _, H => H
  | fuel + 1, _, _, _, H => ⟨H.1, fun i hi => wpOp_mono (fun a' w' h' => ⟨h _ h'.1, wpAnyH_mono h fuel _ a' w' h'.2⟩) (H.2 i hi)⟩
end Go.Proofs.Ytpdanniolgoimaa
