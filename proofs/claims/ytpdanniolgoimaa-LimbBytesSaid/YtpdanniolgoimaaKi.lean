/- clapperlaw01.LimbBytes: the walk. -/
import Derived.Test.YtpdanniolgoimaaKa
import Derived.Test.YtpdanniolgoimaaUp
import Derived.Test.YtpdanniolgoimaaErr
import Derived.Test.YtpdanniolgoimaaSd
import Derived.Test.YtpdanniolgoimaaSe
import Derived.Test.YtpdanniolgoimaaSb
namespace Go.Proofs.Ytpdanniolgoimaa
open Go.RowKit
set_option linter.unusedVariables false
set_option linter.unusedSimpArgs false
attribute [local go_sem high] eqA_num
theorem num_zero' : numV 0 = .agg #[.int .u64 0, .int .u64 0, .int .u64 0, .int .u64 0] := by kernel_rfl
set_option maxRecDepth 100000 in
set_option maxHeartbeats 1600000 in
theorem bytes_large {a : Nat} (ha : a < N256) {A : Option Addr} {n cap : Nat} (hn : 32 < n) (w : World) :
    Calls Try.prog 3 #[numV a, .slice A n cap] w fun e w' => e = .returned (.bool true) ∧ Below w.heap.size w w' := by
  have P0 := fun w => of_large (A := A) (cap := cap) w hn
  have PU := fun w => up_calls w
  rw [num_zero'] at P0
  have K0 := Lib.hid P0; have KU := Lib.hid PU
  have he := fun w => eql_code 1 1 w
  clear P0 PU
  rw [numV_def a]
  have hd : decide ((32 : Int) < (n : Int)) = true := by simp; omega
  go_enter Try.func3, Try.ntmps3
  go_wp2_with fail
  refine (KU.out _).mono ?_
  rintro e w1 ⟨rfl, hb1⟩
  have hB1 := Below.both (show Below w.heap.size w _ from by repeat (first | exact Below.refl _ _ | refine Below.drew ?_ | refine below_drewN ?_ _ | refine Below.alloc ?_ (by first | (simp; done) | (simp; omega)) _)) hb1
  clear hb1
  go_wp2_with fail
  refine (K0.out _).mono ?_
  rintro e w2 ⟨rfl, hb2⟩
  have hB2 := Below.both hB1 hb2
  clear hb2
  go_wp2
  go_ret
  exact ⟨rfl, hB2.alloc (by exact hB2.size) _⟩

set_option maxRecDepth 100000 in
set_option maxHeartbeats 3200000 in
theorem bytes_small {a : Nat} (ha : a < N256) {A : Option Addr} {bs : List Nat} {cap : Nat} {w : World} (hb : BAt w A bs) (hn : bs.length ≤ 32) :
    Calls Try.prog 3 #[numV a, .slice A bs.length cap] w fun e w' => e = .returned (.bool true) ∧ Below w.heap.size w w' := by
  have PU := fun w => up_calls w
  have P0 := fun (X : World) (h : BAt X A bs) => of_calls (cap := cap) h hn
  have P1 := fun (X : World) (h : BAt X A bs) => rof_calls (cap := cap) h hn
  have P2 := fun w => bytes_calls (IsNum.mk ha) w
  have P3 := fun w => rbytes_calls (IsNum.mk ha) w
  generalize beN bs = nb at P0 P1
  rw [numV_def a] at P2 P3
  rw [numV_def nb] at P0 P1
  have K0 := Lib.hid P0; have K1 := Lib.hid P1; have K2 := Lib.hid P2; have K3 := Lib.hid P3; have KU := Lib.hid PU; have HB := Lib.hid hb
  clear P0 P1 P2 P3 PU hb
  rw [numV_def a]
  have hd : decide ((32 : Int) < (bs.length : Int)) = false := by simp; omega
  go_enter Try.func3, Try.ntmps3
  go_wp2_with fail
  refine (KU.out _).mono ?_
  rintro e w1 ⟨rfl, hb1⟩
  have hB1 := Below.both (show Below w.heap.size w _ from by repeat (first | exact Below.refl _ _ | refine Below.drew ?_ | refine below_drewN ?_ _ | refine Below.alloc ?_ (by first | (simp; done) | (simp; omega)) _)) hb1
  have HA1 := Lib.hid ((NumAt.new (n := a) (g := w.heap.size) rfl).below hb1)
  have HBA := Lib.hid (HB.out.below hB1 (Nat.le_refl _))
  clear hb1
  go_wp2_with fail
  refine (K0.out _ HBA.out).mono ?_
  rintro e w2 ⟨rfl, hb2⟩
  have hB2 := Below.both hB1 hb2
  have HA2 := Lib.hid (HA1.out.below hb2)
  clear hb2 HA1 HBA hB1
  go_wp2_with fail
  obtain ⟨W, hW⟩ : ∃ W, W = w2.alloc (.cells #[.int .u64 (wd0 nb : Nat), .int .u64 (wd1 nb : Nat), .int .u64 (wd2 nb : Nat), .int .u64 (wd3 nb : Nat)] 24) := ⟨_, rfl⟩
  have qa := HA2.out.alloc (.cells #[.int .u64 (wd0 nb : Nat), .int .u64 (wd1 nb : Nat), .int .u64 (wd2 nb : Nat), .int .u64 (wd3 nb : Nat)] 24)
  have qx := NumAt.new (w := w2) (n := nb) (g := w2.heap.size) rfl
  have hBW := hB2.alloc (by exact hB2.size) (.cells #[.int .u64 (wd0 nb : Nat), .int .u64 (wd1 nb : Nat), .int .u64 (wd2 nb : Nat), .int .u64 (wd3 nb : Nat)] 24)
  rw [← hW] at qa qx hBW
  rw [← hW]
  clear hW HA2 hB2
  obtain ⟨a0, a1, a2, a3⟩ := qa.four
  obtain ⟨x0, x1, x2, x3⟩ := qx.four
  have za := qa.size; have zx := qx.size
  have HW := Lib.hid hBW
  have HBW := Lib.hid (HB.out.below hBW (Nat.le_refl _))
  clear qa qx
  clear HW
  refine wp_region_held_drew (S := fun w' => ((∀ b o, b < W.heap.size → w'.cell? ⟨b, o, none⟩ = W.cell? ⟨b, o, none⟩) ∧ Below W.heap.size W w')) (by kernel_rfl) ⟨fun b o h => rfl, (Below.refl _ _).drew⟩ (fun hHeld => ?_)
  refine take_at (i := 0) (some 28) (v := ?_) rfl rfl (by kernel_rfl) (by kernel_rfl) (by kernel_rfl) (fun _ _ _ h => h) (Or.inl ⟨by rfl, ?_⟩) hHeld ?_
  rotate_left
  · intro w hSw
    obtain ⟨hc, hbel⟩ := hSw
    go_simp
    first | done | with_reducible rfl
  try simp only [Act.put, List.setIfInBounds_toArray, List.set_cons_zero, List.set_cons_succ]
  refine take_at (i := 1) (some 29) (v := ?_) rfl rfl (by kernel_rfl) (by kernel_rfl) (by kernel_rfl) (fun _ _ _ h => h) (Or.inl ⟨by rfl, ?_⟩) hHeld ?_
  rotate_left
  · intro w hSw
    obtain ⟨hc, hbel⟩ := hSw
    go_simp
    first | done | with_reducible rfl
  try simp only [Act.put, List.setIfInBounds_toArray, List.set_cons_zero, List.set_cons_succ]
  refine take_at (i := 2) (some 30) (v := ?_) rfl rfl (by kernel_rfl) (by kernel_rfl) (by kernel_rfl) (fun _ _ _ h => h) (Or.inl ⟨by rfl, ?_⟩) hHeld ?_
  rotate_left
  · intro w hSw
    obtain ⟨hc, hbel⟩ := hSw
    go_simp
    first | done | with_reducible rfl
  try simp only [Act.put, List.setIfInBounds_toArray, List.set_cons_zero, List.set_cons_succ]
  refine take_at (i := 5) (some 33) (v := ?_) rfl rfl (by kernel_rfl) (by kernel_rfl) (by kernel_rfl) (fun _ _ _ h => h) (Or.inl ⟨by rfl, ?_⟩) hHeld ?_
  rotate_left
  · intro w hSw
    obtain ⟨hc, hbel⟩ := hSw
    go_simp
    first | done | with_reducible rfl
  try simp only [Act.put, List.setIfInBounds_toArray, List.set_cons_zero, List.set_cons_succ]
  refine wpAnyH_ready (rs := [3]) (by kernel_rfl) (by simp) ?_
  refine AllReadyH.cons rfl (fun K hK => ?_) AllReadyH.nil
  go_simp
  refine (K2.out _).mono ?_
  rintro e w9 ⟨g1, cap1, rfl, hg1, hrw1, hb9⟩
  go_wp2_with fail
  refine hK.out _ _ (seen hHeld.2 hb9) (fun hHeld2 => ?_)
  clear hK K hHeld
  have hHeld := hHeld2
  clear hHeld2
  try simp only [Act.put, List.setIfInBounds_toArray, List.set_cons_zero, List.set_cons_succ]
  refine wpAnyH_mono (S2 := fun w' => ((∀ b o, b < W.heap.size → w'.cell? ⟨b, o, none⟩ = W.cell? ⟨b, o, none⟩) ∧ Below W.heap.size W w') ∧ Rw w' 5 g1 (fnB (fun j => by8 a (31 - j)) 32)) (fun _ h => h.1) _ _ _ _ ?_
  have hHeld2 := And.intro hHeld hrw1
  clear hHeld
  have hHeld := hHeld2
  clear hHeld2
  refine take_at (i := 4) (some 32) (v := ?_) rfl rfl (by kernel_rfl) (by kernel_rfl) (by kernel_rfl) (fun _ _ _ h => h) (Or.inl ⟨by rfl, ?_⟩) hHeld ?_
  rotate_left
  · intro w hSw
    obtain ⟨⟨hc, hbel⟩, hr1⟩ := hSw
    have hcv := conv_rw (cap := cap1) hr1
    go_simp
    first | done | with_reducible rfl
  try simp only [Act.put, List.setIfInBounds_toArray, List.set_cons_zero, List.set_cons_succ]
  refine wpAnyH_ready (rs := [6]) (by kernel_rfl) (by simp) ?_
  refine AllReadyH.cons rfl (fun K hK => ?_) AllReadyH.nil
  go_simp
  refine (K3.out _).mono ?_
  rintro e w10 ⟨g2, cap2, rfl, hg2, hrw2, hb10⟩
  go_wp2_with fail
  refine hK.out _ _ (⟨seen hHeld.1.2 hb10, hHeld.2.below hb10 hHeld.2.size⟩) (fun hHeld2 => ?_)
  clear hK K hHeld
  have hHeld := hHeld2
  clear hHeld2
  try simp only [Act.put, List.setIfInBounds_toArray, List.set_cons_zero, List.set_cons_succ]
  refine wpAnyH_mono (S2 := fun w' => (((∀ b o, b < W.heap.size → w'.cell? ⟨b, o, none⟩ = W.cell? ⟨b, o, none⟩) ∧ Below W.heap.size W w') ∧ Rw w' 5 g1 (fnB (fun j => by8 a (31 - j)) 32)) ∧ Rw w' 5 g2 (fnB (fun j => by8 a (31 - j)) 32)) (fun _ h => h.1) _ _ _ _ ?_
  have hHeld2 := And.intro hHeld hrw2
  clear hHeld
  have hHeld := hHeld2
  clear hHeld2
  refine take_at (i := 7) (some 35) (v := ?_) rfl rfl (by kernel_rfl) (by kernel_rfl) (by kernel_rfl) (fun _ _ _ h => h) (Or.inl ⟨by rfl, ?_⟩) hHeld ?_
  rotate_left
  · intro w hSw
    obtain ⟨⟨⟨hc, hbel⟩, hr1⟩, hr2⟩ := hSw
    have hcv := conv_rw (cap := cap2) hr2
    go_simp
    first | done | with_reducible rfl
  try simp only [Act.put, List.setIfInBounds_toArray, List.set_cons_zero, List.set_cons_succ]
  refine take_at (i := 8) (some 36) (v := ?_) rfl rfl (by kernel_rfl) (by kernel_rfl) (by kernel_rfl) (fun _ _ _ h => h) (Or.inl ⟨by rfl, ?_⟩) hHeld ?_
  rotate_left
  · intro w hSw
    obtain ⟨⟨⟨hc, hbel⟩, hr1⟩, hr2⟩ := hSw
    go_simp
    first | done | with_reducible rfl
  try simp only [Act.put, List.setIfInBounds_toArray, List.set_cons_zero, List.set_cons_succ]
  refine take_at (i := 9) (some 37) (v := ?_) rfl rfl (by kernel_rfl) (by kernel_rfl) (by kernel_rfl) (fun _ _ _ h => h) (Or.inl ⟨by rfl, ?_⟩) hHeld ?_
  rotate_left
  · intro w hSw
    obtain ⟨⟨⟨hc, hbel⟩, hr1⟩, hr2⟩ := hSw
    go_simp
    first | done | with_reducible rfl
  try simp only [Act.put, List.setIfInBounds_toArray, List.set_cons_zero, List.set_cons_succ]
  refine take_at (i := 10) (some 38) (v := ?_) rfl rfl (by kernel_rfl) (by kernel_rfl) (by kernel_rfl) (fun _ _ _ h => h) (Or.inl ⟨by rfl, ?_⟩) hHeld ?_
  rotate_left
  · intro w hSw
    obtain ⟨⟨⟨hc, hbel⟩, hr1⟩, hr2⟩ := hSw
    go_simp
    first | done | with_reducible rfl
  try simp only [Act.put, List.setIfInBounds_toArray, List.set_cons_zero, List.set_cons_succ]
  refine take_at (i := 11) (some 39) (v := ?_) rfl rfl (by kernel_rfl) (by kernel_rfl) (by kernel_rfl) (fun _ _ _ h => h) (Or.inl ⟨by rfl, ?_⟩) hHeld ?_
  rotate_left
  · intro w hSw
    obtain ⟨⟨⟨hc, hbel⟩, hr1⟩, hr2⟩ := hSw
    go_simp
    first | done | with_reducible rfl
  try simp only [Act.put, List.setIfInBounds_toArray, List.set_cons_zero, List.set_cons_succ]
  refine take_at (i := 12) (some 40) (v := ?_) rfl rfl (by kernel_rfl) (by kernel_rfl) (by kernel_rfl) (fun _ _ _ h => h) (Or.inl ⟨by rfl, ?_⟩) hHeld ?_
  rotate_left
  · intro w hSw
    obtain ⟨⟨⟨hc, hbel⟩, hr1⟩, hr2⟩ := hSw
    go_simp
    first | done | with_reducible rfl
  try simp only [Act.put, List.setIfInBounds_toArray, List.set_cons_zero, List.set_cons_succ]
  refine take_at (i := 13) (some 41) (v := ?_) rfl rfl (by kernel_rfl) (by kernel_rfl) (by kernel_rfl) (fun _ _ _ h => h) (Or.inl ⟨by rfl, ?_⟩) hHeld ?_
  rotate_left
  · intro w hSw
    obtain ⟨⟨⟨hc, hbel⟩, hr1⟩, hr2⟩ := hSw
    go_simp
    first | done | with_reducible rfl
  try simp only [Act.put, List.setIfInBounds_toArray, List.set_cons_zero, List.set_cons_succ]
  refine take_at (i := 14) (some 42) (v := ?_) rfl rfl (by kernel_rfl) (by kernel_rfl) (by kernel_rfl) (fun _ _ _ h => h) (Or.inl ⟨by rfl, ?_⟩) hHeld ?_
  rotate_left
  · intro w hSw
    obtain ⟨⟨⟨hc, hbel⟩, hr1⟩, hr2⟩ := hSw
    go_simp
    first | done | with_reducible rfl
  try simp only [Act.put, List.setIfInBounds_toArray, List.set_cons_zero, List.set_cons_succ]
  refine take_at (i := 15) (some 43) (v := ?_) rfl rfl (by kernel_rfl) (by kernel_rfl) (by kernel_rfl) (fun _ _ _ h => h) (Or.inl ⟨by rfl, ?_⟩) hHeld ?_
  rotate_left
  · intro w hSw
    obtain ⟨⟨⟨hc, hbel⟩, hr1⟩, hr2⟩ := hSw
    go_simp
    first | done | with_reducible rfl
  try simp only [Act.put, List.setIfInBounds_toArray, List.set_cons_zero, List.set_cons_succ]
  refine take_at (i := 16) (some 44) (v := ?_) rfl rfl (by kernel_rfl) (by kernel_rfl) (by kernel_rfl) (fun _ _ _ h => h) (Or.inl ⟨by rfl, ?_⟩) hHeld ?_
  rotate_left
  · intro w hSw
    obtain ⟨⟨⟨hc, hbel⟩, hr1⟩, hr2⟩ := hSw
    go_simp
    first | done | with_reducible rfl
  try simp only [Act.put, List.setIfInBounds_toArray, List.set_cons_zero, List.set_cons_succ]
  refine wpAnyH_ready (rs := [17]) (by kernel_rfl) (by simp) ?_
  refine AllReadyH.cons rfl (fun K hK => ?_) AllReadyH.nil
  go_simp
  refine (K1.out _ (HBW.out.below hHeld.1.1.2 (Nat.le_refl _))).mono ?_
  rintro e w11 ⟨rfl, hb11⟩
  go_wp2_with fail
  refine hK.out _ _ (⟨⟨seen hHeld.1.1.2 hb11, hHeld.1.2.below hb11 hHeld.1.2.size⟩, hHeld.2.below hb11 hHeld.2.size⟩) (fun hHeld2 => ?_)
  clear hK K hHeld
  have hHeld := hHeld2
  clear hHeld2
  try simp only [Act.put, List.setIfInBounds_toArray, List.set_cons_zero, List.set_cons_succ]
  refine take_at (i := 18) (some 46) (v := ?_) rfl rfl (by kernel_rfl) (by kernel_rfl) (by kernel_rfl) (fun _ _ _ h => h) (Or.inl ⟨by rfl, ?_⟩) hHeld ?_
  rotate_left
  · intro w hSw
    obtain ⟨⟨⟨hc, hbel⟩, hr1⟩, hr2⟩ := hSw
    go_simp
    first | done | with_reducible rfl
  try simp only [Act.put, List.setIfInBounds_toArray, List.set_cons_zero, List.set_cons_succ]
  refine take_at (i := 19) (some 47) (v := ?_) rfl rfl (by kernel_rfl) (by kernel_rfl) (by kernel_rfl) (fun _ _ _ h => h) (Or.inl ⟨by rfl, ?_⟩) hHeld ?_
  rotate_left
  · intro w hSw
    obtain ⟨⟨⟨hc, hbel⟩, hr1⟩, hr2⟩ := hSw
    go_simp
    first | done | with_reducible rfl
  try simp only [Act.put, List.setIfInBounds_toArray, List.set_cons_zero, List.set_cons_succ]
  refine take_at (i := 20) (some 4) (v := ?_) rfl rfl (by kernel_rfl) (by kernel_rfl) (by kernel_rfl) (fun _ _ _ h => h) (Or.inl ⟨by rfl, ?_⟩) hHeld ?_
  rotate_left
  · intro w hSw
    obtain ⟨⟨⟨hc, hbel⟩, hr1⟩, hr2⟩ := hSw
    go_simp
    first | done | with_reducible rfl
  try simp only [Act.put, List.setIfInBounds_toArray, List.set_cons_zero, List.set_cons_succ]
  refine wpAnyH_done (by kernel_rfl) ?_ _
  go_wp2
  go_ret
  exact ⟨rfl, Below.both hBW hHeld.1.1.2⟩
theorem bytes_walk {a : Nat} (ha : a < N256) {A : Option Addr} {n cap : Nat} {w : World} (h : ∃ bs : List Nat, BAt w A bs ∧ bs.length = n ∧ n ≤ 140737488351232) :
    Calls Try.prog 3 #[numV a, .slice A n cap] w fun e w' => e = .returned (.bool true) ∧ Below w.heap.size w w' := by
  obtain ⟨bs, hb, rfl, _⟩ := h
  by_cases hn : 32 < bs.length
  · exact bytes_large ha hn w
  · exact bytes_small ha hb (by omega)
end Go.Proofs.Ytpdanniolgoimaa
