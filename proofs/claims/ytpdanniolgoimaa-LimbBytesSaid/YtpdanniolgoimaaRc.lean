/- clapperref01.word, Num, Wide: words out of a slice of parts. -/
import Derived.Test.YtpdanniolgoimaaRa
import Derived.Lib.Hide
import Derived.Deep.QuietTactic
import Derived.BigQuiet
namespace Go.Proofs.Ytpdanniolgoimaa
open Go.RowKit
set_option linter.unusedVariables false
set_option linter.unusedSimpArgs false

set_option maxRecDepth 100000 in
set_option maxHeartbeats 400000 in
theorem word_calls {w : World} {g m at_ cap : Nat} {xs : List Value} {p0 p1 p2 p3 : Nat} (h : Rw w 3 g xs) (hm : at_ + 3 < m) (hcap : m < 100)
    (h0 : xs[at_]? = some (.int .i64 (p0 : Nat))) (h1 : xs[at_ + 1]? = some (.int .i64 (p1 : Nat))) (h2 : xs[at_ + 2]? = some (.int .i64 (p2 : Nat))) (h3 : xs[at_ + 3]? = some (.int .i64 (p3 : Nat)))
    (b0 : p0 < 65536) (b1 : p1 < 65536) (b2 : p2 < 65536) (b3 : p3 < 65536) :
    Calls Try.prog 36 #[.slice (some ⟨g, 0, none⟩) m cap, .int .i64 (at_ : Nat)] w fun e w' => e = .returned (.int .u64 ((p0 + 65536 * p1 + 4294967296 * p2 + 281474976710656 * p3 : Nat) : Int)) ∧ Below w.heap.size w w' := by
  have c0 := h.cell h0
  have c1 := h.cell h1
  have c2 := h.cell h2
  have c3 := h.cell h3
  clear h h0 h1 h2 h3
  go_enter Try.func36, Try.ntmps36
  go_wp2
  go_quiet (fail)
  go_wp2
  go_ret
  refine ⟨rfl, by repeat (first | exact Below.refl _ _ | refine Below.drew ?_ | refine below_drewN ?_ _ | refine Below.alloc ?_ (by first | (simp; done) | (simp; omega)) _)⟩

theorem pt_up (n k i : Nat) : pt n (k + i) = n / 65536 ^ k / 65536 ^ i % 65536 := by unfold pt; rw [Nat.pow_add, Nat.div_div_eq_div_mul]
theorem word_pt {w : World} {g m at_ cap n : Nat} (h : Rw w 3 g (ptL n m)) (hm : at_ + 3 < m) (hcap : m < 100) :
    Calls Try.prog 36 #[.slice (some ⟨g, 0, none⟩) m cap, .int .i64 (at_ : Nat)] w fun e w' => e = .returned (.int .u64 ((n / 65536 ^ at_ % 18446744073709551616 : Nat) : Int)) ∧ Below w.heap.size w w' := by
  have e : n / 65536 ^ at_ % 18446744073709551616 = pt n at_ + 65536 * pt n (at_ + 1) + 4294967296 * pt n (at_ + 2) + 281474976710656 * pt n (at_ + 3) := by
    rw [pt_up, pt_up, pt_up]; unfold pt
    generalize n / 65536 ^ at_ = q
    simp only [Nat.reducePow]
    omega
  rw [e]
  exact word_calls h hm hcap (ptL_get _ _ _ (by omega)) (ptL_get _ _ _ (by omega)) (ptL_get _ _ _ (by omega)) (ptL_get _ _ _ (by omega)) (pt_lt _ _) (pt_lt _ _) (pt_lt _ _) (pt_lt _ _)

set_option maxRecDepth 100000 in
set_option maxHeartbeats 400000 in
/-- clapperref01.Num -/
theorem num_calls {w : World} {g cap n : Nat} (h : Rw w 3 g (ptL n 16)) :
    Calls Try.prog 30 #[.slice (some ⟨g, 0, none⟩) 16 cap] w fun e w' => e = .returned (numV (n % N256)) ∧ Below w.heap.size w w' := by
  have e0 : wd0 (n % N256) = n / 65536 ^ 0 % 18446744073709551616 := by unfold wd0 N256; simp only [Nat.reducePow]; omega
  have e1 : wd1 (n % N256) = n / 65536 ^ 4 % 18446744073709551616 := by unfold wd1 N256; simp only [Nat.reducePow]; omega
  have e2 : wd2 (n % N256) = n / 65536 ^ 8 % 18446744073709551616 := by unfold wd2 N256; simp only [Nat.reducePow]; omega
  have e3 : wd3 (n % N256) = n / 65536 ^ 12 % 18446744073709551616 := by unfold wd3 N256; simp only [Nat.reducePow]; omega
  rw [numV_def]
  have hz := h.size
  have H0 := fun (o : Obj) => word_pt (at_ := 0) (cap := cap) (h.alloc o) (by omega) (by omega)
  rw [← e0] at H0
  have E1 := Lib.hid e1; have E2 := Lib.hid e2; have E3 := Lib.hid e3; have HH := Lib.hid h
  have K0 := Lib.hid H0
  clear e0 e1 e2 e3 h H0
  go_enter Try.func30, Try.ntmps30
  go_wp2_with fail
  refine (K0.out _).mono ?_
  rintro e w1 ⟨rfl, hb1⟩
  have r1 := (HH.out.alloc _).below hb1 (by simp; omega)
  have k1 := word_pt (at_ := 4) (cap := cap) r1 (by omega) (by omega)
  rw [← E1.out] at k1
  have K1 := Lib.hid k1; have R1 := Lib.hid r1; clear k1 r1
  go_wp2_with fail
  refine K1.out.mono ?_
  rintro e w2 ⟨rfl, hb2⟩
  have r2 := R1.out.below hb2 R1.out.size
  have k2 := word_pt (at_ := 8) (cap := cap) r2 (by omega) (by omega)
  rw [← E2.out] at k2
  have K2 := Lib.hid k2; have R2 := Lib.hid r2; clear k2 r2
  go_wp2_with fail
  refine K2.out.mono ?_
  rintro e w3 ⟨rfl, hb3⟩
  have r3 := R2.out.below hb3 R2.out.size
  have k3 := word_pt (at_ := 12) (cap := cap) r3 (by omega) (by omega)
  rw [← E3.out] at k3
  have K3 := Lib.hid k3; have R3 := Lib.hid r3; clear k3 r3
  go_wp2_with fail
  refine K3.out.mono ?_
  rintro e w4 ⟨rfl, hb4⟩
  have hs1 : w.heap.size + 1 ≤ w1.heap.size := by have := hb1.size; simp at this; omega
  have hb : Below (w.heap.size + 1) (w.alloc (Obj.cells #[.int .u64 0, .int .u64 0, .int .u64 0, .int .u64 0] 24)) w4 :=
    ((hb1.mono (by simp)).trans (hb2.mono (by omega))).trans ((hb3.mono (by have := hb2.size; omega)).trans (hb4.mono (by have := hb2.size; have := hb3.size; omega)))
  have f0 := (hb.cell (p := ⟨w.heap.size, 0, none⟩) (by simp)).trans (World.cell?_alloc_at _ _ _ _ rfl)
  have f1 := (hb.cell (p := ⟨w.heap.size, 1, none⟩) (by simp)).trans (World.cell?_alloc_at _ _ _ _ rfl)
  have f2 := (hb.cell (p := ⟨w.heap.size, 2, none⟩) (by simp)).trans (World.cell?_alloc_at _ _ _ _ rfl)
  have f3 := (hb.cell (p := ⟨w.heap.size, 3, none⟩) (by simp)).trans (World.cell?_alloc_at _ _ _ _ rfl)
  have z0 := (hb.frozen (p := ⟨w.heap.size, 0, none⟩) (by simp)).trans (World.frozen?_alloc_at _ _ _ _ rfl)
  have z1 := (hb.frozen (p := ⟨w.heap.size, 1, none⟩) (by simp)).trans (World.frozen?_alloc_at _ _ _ _ rfl)
  have z2 := (hb.frozen (p := ⟨w.heap.size, 2, none⟩) (by simp)).trans (World.frozen?_alloc_at _ _ _ _ rfl)
  have z3 := (hb.frozen (p := ⟨w.heap.size, 3, none⟩) (by simp)).trans (World.frozen?_alloc_at _ _ _ _ rfl)
  simp at f0 f1 f2 f3
  have hfin : Below w.heap.size w w4 := ((Below.refl _ _).alloc (Nat.le_refl _) _).trans (hb.mono (by omega))
  clear hb1 hb2 hb3 hb4 hb
  go_wp2
  refine bodyPost_ret (v := .agg #[.int .u64 (wd0 (n % N256) : Nat), .int .u64 (wd1 (n % N256) : Nat), .int .u64 (wd2 (n % N256) : Nat), .int .u64 (wd3 (n % N256) : Nat)]) (by simp [results, Try.results30, go_sem, f0, f1, f2, f3]) rfl ⟨rfl, ?_⟩
  repeat (first | exact hfin | refine Below.setCell ?_ (by exact Nat.le_refl _) _)
end Go.Proofs.Ytpdanniolgoimaa
