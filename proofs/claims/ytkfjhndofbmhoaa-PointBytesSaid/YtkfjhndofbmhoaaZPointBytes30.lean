/- What the proof of PointBytes is made of, part 30. -/
import Derived.Test.YtkfjhndofbmhoaaZPointBytes2
import Derived.Test.YtkfjhndofbmhoaaZPointBytes1
import Derived.Deep.RegionHeld3
import Derived.Deep.AppendLies
import Derived.OwnWalk
namespace Go.Proofs.Ytkfjhndofbmhoaa
open Go.RowKit
set_option linter.unusedVariables false
set_option linter.unusedSimpArgs false
theorem Try.info5 : (Try.prog.info? 5).map (fun i => (i.zero, i.size, i.bytes)) = some (some (.int .u8 0), 1, 1) := by kernel_rfl
theorem fnB_two (f : Nat → Nat) (m : Nat) : fnB f (m + 2) = fnB f m ++ [.int .u8 (f m : Nat), .int .u8 (f (m + 1) : Nat)] := by simp [fnB, List.range_succ]
theorem pt_hi (a k : Nat) (hk : k < 16) : pt a (15 - k) / 256 = by8 a (31 - 2 * k) := by
  unfold pt by8
  have e : 31 - 2 * k = 2 * (15 - k) + 1 := by omega
  rw [e, Nat.pow_succ, Nat.pow_mul, ← Nat.div_div_eq_div_mul]
  simp only [Nat.reducePow]
  omega
theorem pt_lo (a k : Nat) (hk : k < 16) : pt a (15 - k) % 256 = by8 a (31 - (2 * k + 1)) := by
  unfold pt by8
  have e : 31 - (2 * k + 1) = 2 * (15 - k) := by omega
  rw [e, Nat.pow_mul]
  simp only [Nat.reducePow]
  omega
theorem wrap_hi (p : Nat) (hp : p < 65536) : IntKind.u8.wrap (IntKind.i64.wrap ((p : Int) / 256)) = ((p / 256 : Nat) : Int) := by
  rw [IntWalk.i64_in _ (by omega), IntWalk.u8_in _ (by omega)]; rfl
theorem wrap_lo (p : Nat) (hp : p < 65536) : IntKind.u8.wrap ((p : Int).tmod 256) = ((p % 256 : Nat) : Int) := by
  rw [Int.tmod_eq_emod_of_nonneg (by omega), IntWalk.u8_in _ (by omega)]; rfl
theorem own_low {w : World} {b b' n sz : Nat} {e : TypeId} {v : Value} {xs : List Value} (h : w.ownsRow b e sz v n xs) (hb : b' ≤ b) : w.ownsRow b' e sz v n xs := by
  obtain ⟨h1, h2⟩ := h
  refine ⟨h1, ?_⟩
  rcases h2 with h2 | ⟨g, cap, cur, rfl, hg, r⟩
  · exact .inl h2
  · exact .inr ⟨g, cap, cur, rfl, Nat.le_trans hb hg, r⟩
set_option maxRecDepth 100000 in
set_option maxHeartbeats 1600000 in
/-- clapperref01.Bytes -/
theorem rbytes_calls2 {va : Value} {a : Nat} (ha : IsNum va a) (w : World) :
    Calls Try.prog 47 #[va] w fun e w' => ∃ g cap, e = .returned (.slice (some ⟨g, 0, none⟩) 32 cap) ∧ w'.ownsRow w.heap.size 5 1 (.slice (some ⟨g, 0, none⟩) 32 cap) 32 (fnB (fun j => by8 a (31 - j)) 32) ∧ Below w.heap.size w w' := by
  obtain ⟨rfl, ha⟩ := ha
  obtain ⟨i0, hi, hz0, hz1, hz2⟩ := info_parts Try.info5
  have P0 := fun w => parts_calls (IsNum.mk ha) w
  rw [numV_def] at P0
  have K0 := Lib.hid P0
  clear P0
  rw [numV_def]
  go_enter Try.func47, Try.ntmps47
  go_wp2_with fail
  refine (K0.out _).mono ?_
  rintro e w1 ⟨gx, cx, rfl, hgx, hcx, rx, hb1⟩
  have hgx' : w.heap.size + 1 ≤ gx := by simp at hgx; omega
  have hB1 : Below w.heap.size w w1 := (show Below w.heap.size w _ from by repeat (first | exact Below.refl _ _ | refine Below.drew ?_ | refine below_drewN ?_ _ | refine Below.alloc ?_ (by first | (simp; done) | (simp; omega)) _)).trans (hb1.mono (by simp))
  have RX := Lib.hid rx
  have hzx := rx.size
  have hs1 : w.heap.size ≤ w1.heap.size := hB1.size
  clear rx hb1 hgx
  go_wp2
  go_loopw [4, 5] (fun v i wr => ∃ k : Nat, k ≤ 16 ∧ i = .int .i64 (15 - (k : Int)) ∧ wr.ownsRow w1.heap.size 5 1 v (2 * k) (fnB (fun j => by8 a (31 - j)) (2 * k)) ∧ Hid (Rw wr 3 gx (ptL a 16)) ∧ Below w.heap.size w wr ∧ w1.heap.size ≤ wr.heap.size)
    (fun _ i _ => (intOf i + 1).toNat)
  case atStart => exact ⟨0, Nat.zero_le _, rfl, World.ownsRow_nil _ _ _ _, RX, hB1, Nat.le_refl _⟩
  case round =>
    obtain ⟨k, hk, rfl, hown, HX, hB, hsz⟩ := hrel
    by_cases hk16 : k < 16
    · obtain ⟨m, hm⟩ : ∃ m : Nat, m = 15 - k := ⟨_, rfl⟩
      have hmi : (15 : Int) - (k : Int) = (m : Int) := by omega
      rw [hmi]
      have cx := HX.out.cell (ptL_get _ _ m (by omega))
      have hp := pt_lt a m
      have hxh := pt_hi a k hk16
      have hxl := pt_lo a k hk16
      rw [← hm] at hxh hxl
      have HXH := Lib.hid hxh; have HXL := Lib.hid hxl
      have hm16 : m < 16 := by omega
      have HM := Lib.hid hm
      clear hxh hxl hm hmi
      have hgx2 : gx < wr.heap.size := HX.out.size
      obtain ⟨p, hpe⟩ : ∃ p, p = pt a m := ⟨_, rfl⟩
      rw [← hpe] at cx hp HXH HXL
      have HPE := Lib.hid hpe
      clear hpe
      have hm0 : (0 : Int) ≤ (m : Int) := by omega
      have hm1 : (m : Int) < 16 := by omega
      obtain ⟨x1, hx1⟩ : ∃ x, x = by8 a (31 - 2 * k) := ⟨_, rfl⟩
      obtain ⟨x2, hx2⟩ : ∃ x, x = by8 a (31 - (2 * k + 1)) := ⟨_, rfl⟩
      have hq1 : 2 * k + 2 ≤ maxLen := by unfold maxLen; omega
      have hq2 : (2 * k + 2) * 1 ≤ 140737488355328 := by omega
      have hq3 : gx < wr.heap.size + 1 := by omega
      have hq4 : w1.heap.size ≤ wr.heap.size + 1 := by omega
      have he1 : IntKind.u8.wrap (IntKind.i64.wrap ((p : Int) / 256)) = (x1 : Nat) := by rw [wrap_hi p hp, hx1, ← HXH.out]
      have he2 : IntKind.u8.wrap ((p : Int).tmod 256) = (x2 : Nat) := by rw [wrap_lo p hp, hx2, ← HXL.out]
      have HX1 := Lib.hid hx1; have HX2 := Lib.hid hx2
      clear hx1 hx2 HXH HXL
      have hne : u4.ownBlock ≠ some gx := fun e => by have := (hown.lt gx e).1; omega
      go_wp2_with fail
      go_region_held3 (fun w' => w'.cell? ⟨gx, m, none⟩ = some (.int .i64 (p : Nat)))
        (first | go_keep | (go_split_ands; (rw [hgrow.cell_far _ (by simpa using hq3) (Ne.symm hne)]; assumption)))
        ((refine step_append_lies _ (by rfl) _ _ _ (by rfl) w1.heap.size 5 i0 _ 1 1 Try.underlying47 hi hz0 hz1 hz2 rfl (by decide) u4 (2 * k) (fnB (fun j => by8 a (31 - j)) (2 * k)) (by rfl) ((hown.alloc _).drew)
            ⟨wr.heap.size, 0, none⟩ 2 2 [.int .u8 (x1 : Nat), .int .u8 (x2 : Nat)] (by rfl) (by rfl) (World.news_of_block (cs := #[.int .u8 (x1 : Nat), .int .u8 (x2 : Nat)]) (t := 5) (fr := (0, 0)) (heap_alloc_new wr _)) (by simp [Value.oneCell'])
            (by decide) hq1 hq2 (by simpa using hq4) (wr.heap.size + 1) (by simp) ?_; intro gg cap w2 hown1 hgrow hat hlt))
      have hB2 : Below w.heap.size w w2 := (hB.alloc hB.size _).drew.grown hgrow (by simp; have := hB.size; omega) (fun q hq => by have := (hown.lt q hq).1; omega)
      have hx2 := HX.out
      have HX3 : Hid (Rw w2 3 gx (ptL a 16)) := Lib.hid (by
        refine (hx2.alloc _).drew.block (hgrow.block gx ?_ (fun e => hne e.symm))
        simp; omega)
      have hs2 : w1.heap.size ≤ w2.heap.size := by have := hgrow.size; simp at this; omega
      rw [HX1.out, HX2.out, ← fnB_two (fun j => by8 a (31 - j)) (2 * k)] at hown1
      have hown2 : w2.ownsRow w1.heap.size 5 1 (.slice (some ⟨gg, 0, none⟩) (2 * k + 2) cap) (2 * (k + 1)) (fnB (fun j => by8 a (31 - j)) (2 * (k + 1))) := hown1
      clear hown1 hown hgrow hat hlt he1 he2 hq1 hq2 hq3 hq4 cx hx2
      go_wp2
      go_roundw
      case rel => exact ⟨k + 1, by omega, by have := HM.out; first | (refine congrArg _ ?_; omega) | omega, hown2, HX3, hB2, hs2⟩
      case measure => first | (simp [intOf]; done) | (simp [intOf]; omega)
    · have hk17 : k = 16 := by omega
      subst hk17
      obtain ⟨g, cap, rfl, hg, hcap, hrw⟩ := Rw.of_owns hown (by omega)
      have ho2 := Lib.hid (own_low hown hs1)
      clear hown
      go_wp2
      go_ret
      exact ⟨g, cap, rfl, ho2.out, hB⟩
end Go.Proofs.Ytkfjhndofbmhoaa
