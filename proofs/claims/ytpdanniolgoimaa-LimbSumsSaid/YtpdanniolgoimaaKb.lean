/- clapperlaw01.LimbSums: the walk. -/
import Derived.Test.YtpdanniolgoimaaKa
import Derived.Test.YtpdanniolgoimaaUp
import Derived.Test.YtpdanniolgoimaaLa
import Derived.Test.YtpdanniolgoimaaLb
import Derived.Test.YtpdanniolgoimaaRd
import Derived.Test.YtpdanniolgoimaaRe
import Derived.Deep.QuietTactic
import Derived.BigQuiet
namespace Go.Proofs.Ytpdanniolgoimaa
open Go.RowKit
set_option linter.unusedVariables false
set_option linter.unusedSimpArgs false
attribute [local go_sem high] eqA_num

set_option maxRecDepth 100000 in
set_option maxHeartbeats 1600000 in
theorem sums_walk {a b : Nat} (ha : a < N256) (hb : b < N256) (w : World) :
    Calls Try.prog 4 #[numV a, numV b] w fun e w' => e = .returned (.bool true) ∧ Below w.heap.size w w' := by
  have P0 := fun w => add_calls (IsNum.mk ha) (IsNum.mk hb) w
  have P1 := fun w => sub_calls (IsNum.mk ha) (IsNum.mk hb) w
  have P2 := fun w => radd_calls (IsNum.mk ha) (IsNum.mk hb) w
  have P3 := fun w => rsub_calls (IsNum.mk ha) (IsNum.mk hb) w
  have P4 := fun w => cmp_calls (IsNum.mk ha) (IsNum.mk hb) w
  have P5 := fun w => rcmp_calls (IsNum.mk ha) (IsNum.mk hb) w
  have PU := fun w => up_calls w
  rw [numV_def a, numV_def b] at P0 P1 P2 P3 P4 P5
  obtain ⟨n1, hn1⟩ : ∃ n, n = (a + b) % N256 := ⟨_, rfl⟩
  obtain ⟨n2, hn2⟩ : ∃ n, n = (a + N256 - b) % N256 := ⟨_, rfl⟩
  obtain ⟨o1, ho1⟩ : ∃ n, n = decide (N256 ≤ a + b) := ⟨_, rfl⟩
  obtain ⟨o2, ho2⟩ : ∃ n, n = decide (a < b) := ⟨_, rfl⟩
  rw [← hn1, ← ho1] at P0 P2
  rw [← hn2, ← ho2] at P1 P3
  clear hn1 hn2 ho1 ho2
  rw [numV_def] at P0 P1 P2 P3
  have K0 := Lib.hid P0; have K1 := Lib.hid P1; have K2 := Lib.hid P2; have K3 := Lib.hid P3; have K4 := Lib.hid P4; have K5 := Lib.hid P5; have KU := Lib.hid PU
  clear P0 P1 P2 P3 P4 P5 PU
  rw [numV_def a, numV_def b]
  go_enter Try.func4, Try.ntmps4
  go_wp2_with fail
  refine (KU.out _).mono ?_
  rintro e w1 ⟨rfl, hb1⟩
  have hB1 := Below.both (show Below w.heap.size w _ from by repeat (first | exact Below.refl _ _ | refine Below.drew ?_ | refine below_drewN ?_ _ | refine Below.alloc ?_ (by first | (simp; done) | (simp; omega)) _)) hb1
  have HA := Lib.hid ((NumAt.new (n := a) (g := w.heap.size) rfl).alloc _ |>.below hb1)
  have HBb := Lib.hid ((NumAt.new (n := b) (g := w.heap.size + 1) (by simp)).below hb1)
  clear hb1
  obtain ⟨a0, a1, a2, a3⟩ := HA.out.four
  obtain ⟨b0, b1, b2, b3⟩ := HBb.out.four
  have za := HA.out.size; have zb := HBb.out.size
  go_wp2_with fail
  refine (K0.out _).mono ?_
  rintro e w2 ⟨rfl, hb2⟩
  have hB2 := Below.both hB1 hb2
  have HA' := Lib.hid (HA.out.below hb2)
  have HBb' := Lib.hid (HBb.out.below hb2)
  clear HA HBb hb2 hB1 a0 a1 a2 a3 b0 b1 b2 b3 za zb
  have HA := HA'
  clear HA'
  have HBb := HBb'
  clear HBb'
  obtain ⟨a0, a1, a2, a3⟩ := HA.out.four
  obtain ⟨b0, b1, b2, b3⟩ := HBb.out.four
  have za := HA.out.size; have zb := HBb.out.size
  go_wp2_with fail
  refine (K1.out _).mono ?_
  rintro e w3 ⟨rfl, hb3⟩
  have hB3 := Below.both (hB2.alloc (by exact hB2.size) _) hb3
  have HA' := Lib.hid ((HA.out.alloc _).below hb3)
  have HBb' := Lib.hid ((HBb.out.alloc _).below hb3)
  have HS1 := Lib.hid ((NumAt.new (n := n1) (g := w2.heap.size) rfl).below hb3)
  clear HA HBb hb3 hB2 a0 a1 a2 a3 b0 b1 b2 b3 za zb
  have HA := HA'
  clear HA'
  have HBb := HBb'
  clear HBb'
  obtain ⟨a0, a1, a2, a3⟩ := HA.out.four
  obtain ⟨b0, b1, b2, b3⟩ := HBb.out.four
  have za := HA.out.size; have zb := HBb.out.size
  go_wp2_with fail
  refine (K2.out _).mono ?_
  rintro e w4 ⟨rfl, hb4⟩
  have hB4 := Below.both (hB3.alloc (by exact hB3.size) _) hb4
  have HA' := Lib.hid ((HA.out.alloc _).below hb4)
  have HBb' := Lib.hid ((HBb.out.alloc _).below hb4)
  have HS1' := Lib.hid ((HS1.out.alloc _).below hb4)
  have HS2 := Lib.hid ((NumAt.new (n := n2) (g := w3.heap.size) rfl).below hb4)
  clear HA HBb HS1 hb4 hB3 a0 a1 a2 a3 b0 b1 b2 b3 za zb
  have HA := HA'
  clear HA'
  have HBb := HBb'
  clear HBb'
  have HS1 := HS1'
  clear HS1'
  obtain ⟨a0, a1, a2, a3⟩ := HA.out.four
  obtain ⟨b0, b1, b2, b3⟩ := HBb.out.four
  have za := HA.out.size; have zb := HBb.out.size
  go_wp2_with fail
  refine (K3.out _).mono ?_
  rintro e w5 ⟨rfl, hb5⟩
  have hB5 := Below.both (hB4.alloc (by exact hB4.size) _) hb5
  have HA' := Lib.hid ((HA.out.alloc _).below hb5)
  have HBb' := Lib.hid ((HBb.out.alloc _).below hb5)
  have HS1' := Lib.hid ((HS1.out.alloc _).below hb5)
  have HS2' := Lib.hid ((HS2.out.alloc _).below hb5)
  have HS3 := Lib.hid ((NumAt.new (n := n1) (g := w4.heap.size) rfl).below hb5)
  clear HA HBb HS1 HS2 hb5 hB4 a0 a1 a2 a3 b0 b1 b2 b3 za zb
  have HA := HA'
  clear HA'
  have HBb := HBb'
  clear HBb'
  have HS1 := HS1'
  clear HS1'
  have HS2 := HS2'
  clear HS2'
  have hz1 := HA.out.size; have hz2 := HBb.out.size; have hz3 := HS1.out.size; have hz4 := HS2.out.size; have hz5 := HS3.out.size
  obtain ⟨a0, a1, a2, a3⟩ := HA.out.four
  obtain ⟨b0, b1, b2, b3⟩ := HBb.out.four
  go_wp2_with fail
  clear a0 a1 a2 a3 b0 b1 b2 b3
  obtain ⟨W, hW⟩ : ∃ W, W = w5.alloc (.cells #[.int .u64 (wd0 n2 : Nat), .int .u64 (wd1 n2 : Nat), .int .u64 (wd2 n2 : Nat), .int .u64 (wd3 n2 : Nat)] 24) := ⟨_, rfl⟩
  rw [← hW]
  have qa := HA.out.alloc (.cells #[.int .u64 (wd0 n2 : Nat), .int .u64 (wd1 n2 : Nat), .int .u64 (wd2 n2 : Nat), .int .u64 (wd3 n2 : Nat)] 24)
  have qb := HBb.out.alloc (.cells #[.int .u64 (wd0 n2 : Nat), .int .u64 (wd1 n2 : Nat), .int .u64 (wd2 n2 : Nat), .int .u64 (wd3 n2 : Nat)] 24)
  have qc := HS1.out.alloc (.cells #[.int .u64 (wd0 n2 : Nat), .int .u64 (wd1 n2 : Nat), .int .u64 (wd2 n2 : Nat), .int .u64 (wd3 n2 : Nat)] 24)
  have qd := HS2.out.alloc (.cells #[.int .u64 (wd0 n2 : Nat), .int .u64 (wd1 n2 : Nat), .int .u64 (wd2 n2 : Nat), .int .u64 (wd3 n2 : Nat)] 24)
  have qe := HS3.out.alloc (.cells #[.int .u64 (wd0 n2 : Nat), .int .u64 (wd1 n2 : Nat), .int .u64 (wd2 n2 : Nat), .int .u64 (wd3 n2 : Nat)] 24)
  have qf := NumAt.new (w := w5) (n := n2) (g := w5.heap.size) rfl
  have hBW := hB5.alloc hB5.size (.cells #[.int .u64 (wd0 n2 : Nat), .int .u64 (wd1 n2 : Nat), .int .u64 (wd2 n2 : Nat), .int .u64 (wd3 n2 : Nat)] 24)
  rw [← hW] at qa qb qc qd qe qf hBW
  clear hW HA HBb HS1 HS2 HS3
  obtain ⟨a0, a1, a2, a3⟩ := qa.four
  obtain ⟨b0, b1, b2, b3⟩ := qb.four
  obtain ⟨c0, c1, c2, c3⟩ := qc.four
  obtain ⟨d0, d1, d2, d3⟩ := qd.four
  obtain ⟨e0, e1, e2, e3⟩ := qe.four
  obtain ⟨f0, f1, f2, f3⟩ := qf.four
  have zW : w5.heap.size < W.heap.size := qf.size
  have z1 : w.heap.size < W.heap.size := qa.size
  have z2 : w.heap.size + 1 < W.heap.size := qb.size
  have z3 : w2.heap.size < W.heap.size := qc.size
  have z4 : w3.heap.size < W.heap.size := qd.size
  have z5 : w4.heap.size < W.heap.size := qe.size
  clear qa qb qc qd qe qf hz1 hz2 hz3 hz4 hz5
  go_region_held3 (fun w' => (∀ b o, b < W.heap.size → w'.cell? ⟨b, o, none⟩ = W.cell? ⟨b, o, none⟩) ∧ Below W.heap.size W w')
    (first | exact ⟨fun b o h => rfl, (Below.refl _ _).drew⟩ | (go_split_ands; exact seen (by assumption) hb9))
    (first | (go_at_call 19; refine (K4.out _).mono ?_; rintro e w9 ⟨rfl, hb9⟩) | (go_at_call 20; refine (K5.out _).mono ?_; rintro e w9 ⟨rfl, hb9⟩))
  go_wp2
  go_ret
  go_split_ands
  exact ⟨rfl, Below.both hBW (by assumption)⟩
end Go.Proofs.Ytpdanniolgoimaa
