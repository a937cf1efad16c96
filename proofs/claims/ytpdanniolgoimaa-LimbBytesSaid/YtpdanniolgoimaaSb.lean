/- limb.Of: the number of up to 32 bytes, or that they are too many. -/
import Derived.Test.YtpdanniolgoimaaSa
namespace Go.Proofs.Ytpdanniolgoimaa
open Go.RowKit
set_option linter.unusedVariables false
set_option linter.unusedSimpArgs false

set_option maxRecDepth 100000 in
set_option maxHeartbeats 400000 in
theorem of_large {A : Option Addr} {n cap : Nat} (w : World) (h : 32 < n) :
    Calls Try.prog 11 #[.slice A n cap] w fun e w' => e = .returned (.tuple #[numV 0, .iface 31 (.int .i64 1)]) ∧ Below w.heap.size w w' := by
  have e0 : numV 0 = .agg #[.int .u64 0, .int .u64 0, .int .u64 0, .int .u64 0] := rfl
  rw [e0]
  go_enter Try.func11, Try.ntmps11
  go_wp2
  refine bodyPost_ret (v := .tuple #[.agg #[.int .u64 0, .int .u64 0, .int .u64 0, .int .u64 0], .iface 31 (.int .i64 1)]) (by simp [results, Try.results11, go_sem]) rfl ⟨rfl, ?_⟩
  repeat (first | exact Below.refl _ _ | refine Below.drew ?_ | refine Below.alloc ?_ (by first | (simp; done) | (simp; omega)) _)

set_option maxRecDepth 100000 in
set_option maxHeartbeats 800000 in
/-- limb.Of -/
theorem of_calls {A : Option Addr} {bs : List Nat} {cap : Nat} {w : World} (hb : BAt w A bs) (h : bs.length ≤ 32) :
    Calls Try.prog 11 #[.slice A bs.length cap] w fun e w' => e = .returned (.tuple #[numV (beN bs), .nilIface]) ∧ Below w.heap.size w w' := by
  have HB := Lib.hid hb
  have hd : decide ((32 : Int) < (bs.length : Int)) = false := by simp; omega
  clear hb
  go_enter Try.func11, Try.ntmps11
  go_wp2
  go_loopw [13] (fun i wr => ∃ k : Nat, k ≤ bs.length ∧ i = .int .i64 k ∧ Hid (Rw wr 24 (w.heap.size + 1) (numL (beN (bs.drop (bs.length - k))))) ∧ Hid (Rw wr 24 w.heap.size [.int .u64 0, .int .u64 0, .int .u64 0, .int .u64 0]) ∧ Below w.heap.size w wr)
    (fun i _ => bs.length - (intOf i).toNat)
  case atStart =>
    refine ⟨0, Nat.zero_le _, rfl, Lib.hid ?_, Lib.hid ?_, by repeat (first | exact Below.refl _ _ | refine Below.alloc ?_ (by first | (simp; done) | (simp; omega)) _)⟩
    · rw [Nat.sub_zero, List.drop_length]
      exact Rw.new (by simp)
    · exact (Rw.new rfl).alloc _
  case round =>
    obtain ⟨k, hk, rfl, HX, HZ, hB⟩ := hrel
    by_cases hkl : k < bs.length
    · have hq : k / 8 < 4 := by omega
      have cx := HX.out.cell (numL_get _ _ hq)
      have fx := HX.out.free (k / 8)
      have hl := HB.out.lt (bs.length - 1 - k)
      have hn := beN_drop_lt bs HB.out.2 k (by omega)
      obtain ⟨b, o, rfl, hbs, hcell⟩ : ∃ b o, A = some ⟨b, o, none⟩ ∧ b < w.heap.size ∧ ∀ i, i < bs.length → w.cell? ⟨b, o + i, none⟩ = some (.int .u8 (bs.getD i 0 : Nat)) := by
        rcases HB.out.1 with h | h
        · rw [h] at hkl; simp at hkl
        · exact h
      have cb := (hB.cell (p := ⟨b, o + (bs.length - 1 - k), none⟩) hbs).trans (hcell (bs.length - 1 - k) (by omega))
      have hp := wdk_put (beN (bs.drop (bs.length - k))) (bs.getD (bs.length - 1 - k) 0) k hn hl (by omega)
      have hst := beN_step bs k hkl
      have hsm := wdk_small _ k hn (by omega)
      have hor := or_put (bs.getD (bs.length - 1 - k) 0) _ (k % 8) hl (by omega) hsm
      have hpk := hp (k / 8) hq
      rw [if_pos rfl] at hpk
      rw [← hpk] at hor
      have HOR := Lib.hid hor
      clear hor hpk hsm
      have HP := Lib.hid hp; have HS := Lib.hid hst; have HN := Lib.hid hn; have HC := Lib.hid hcell
      clear hp hst hn hcell
      have hw := wdk_lt (beN (bs.drop (bs.length - k))) (k / 8)
      have hxe : ∃ x, x = bs.getD (bs.length - 1 - k) 0 := ⟨_, rfl⟩
      obtain ⟨x, hxe⟩ := hxe
      have hne : ∃ y, y = wdk (beN (bs.drop (bs.length - k))) (k / 8) := ⟨_, rfl⟩
      obtain ⟨y, hne⟩ := hne
      rw [← hxe] at hl cb HOR HP HS
      rw [← hne] at cx HOR hw
      have HXE := Lib.hid hxe; have HNE := Lib.hid hne
      clear hxe hne
      have hsz := hB.size
      go_wp2
      go_region
      rw [HOR.out]
      have hx2 := HX.out.set (k / 8) (.int .u64 ((wdk (beN (bs.drop (bs.length - k)) + x * 256 ^ k) (k / 8) : Nat) : Int))
      rw [numL_set _ _ _ (beN (bs.drop (bs.length - (k + 1)))) hq (fun p hp => by
        rw [HS.out]
        by_cases e : p = k / 8
        · rw [if_pos e, e]
        · rw [if_neg e, HP.out p hp, if_neg e])] at hx2
      have HX2 := Lib.hid hx2
      have hz2 := HZ.out.set_other (a := ⟨w.heap.size + 1, k / 8, none⟩) (by simp) (.int .u64 ((wdk (beN (bs.drop (bs.length - k)) + x * 256 ^ k) (k / 8) : Nat) : Int))
      have HZ2 := Lib.hid hz2
      have hB2 := hB.setCell (p := ⟨w.heap.size + 1, k / 8, none⟩) (by simp) (.int .u64 ((wdk (beN (bs.drop (bs.length - k)) + x * 256 ^ k) (k / 8) : Nat) : Int))
      clear hx2 hz2 cx cb fx
      generalize wdk (beN (bs.drop (bs.length - k)) + x * 256 ^ k) (k / 8) = z at *
      generalize wr.setCell ⟨w.heap.size + 1, k / 8, none⟩ (.int .u64 (z : Nat)) = wz at *
      go_wp2
      go_roundw
      case rel => exact ⟨k + 1, by omega, by go_num, HX2, HZ2, hB2.drew⟩
      case measure => simp [intOf]; omega
    · have hk2 : k = bs.length := by omega
      have hx := HX.out
      rw [hk2, Nat.sub_self, List.drop_zero] at hx
      obtain ⟨a0, a1, a2, a3⟩ := hx.four
      obtain ⟨c0, c1, c2, c3⟩ := HZ.out.four
      have z0 := HZ.out.free 0
      have z1 := HZ.out.free 1
      have z2 := HZ.out.free 2
      have z3 := HZ.out.free 3
      have hzs := HZ.out.size
      clear hx
      go_wp2
      refine bodyPost_ret (v := .tuple #[.agg #[.int .u64 (wdk (beN bs) 0 : Nat), .int .u64 (wdk (beN bs) 1 : Nat), .int .u64 (wdk (beN bs) 2 : Nat), .int .u64 (wdk (beN bs) 3 : Nat)], .nilIface]) (by simp [results, Try.results11, go_sem, a0, a1, a2, a3, c0, c1, c2, c3]) rfl ⟨rfl, ?_⟩
      repeat (first | exact hB | refine Below.setCell ?_ (by simp) _)
end Go.Proofs.Ytpdanniolgoimaa
