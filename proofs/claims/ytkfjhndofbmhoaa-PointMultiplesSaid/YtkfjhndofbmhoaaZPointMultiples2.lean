/- What the proof of PointMultiples is made of, part 2. -/
import Derived.Test.YtkfjhndofbmhoaaZPointMultiples0
import Derived.Test.YtkfjhndofbmhoaaZPointMultiples1
import Derived.Lib.Hide
import Derived.Deep.QuietTactic
import Derived.BigQuiet
import Derived.BigRegion
import Derived.Test.YtkfjhndofbmhoaaZPointMultiples9
import Derived.LaidEql
import Derived.Laws.BytesArg
namespace Go.Proofs.Ytkfjhndofbmhoaa
open Go.RowKit
set_option linter.unusedVariables false
set_option linter.unusedSimpArgs false
/-- A slice's bytes lie in memory. -/
def BAt (w : World) (A : Option Addr) (bs : List Nat) : Prop := (bs = [] ∨ ∃ b o, A = some ⟨b, o, none⟩ ∧ b < w.heap.size ∧ ∀ i, i < bs.length → w.cell? ⟨b, o + i, none⟩ = some (.int .u8 (bs.getD i 0 : Nat))) ∧ ∀ i, bs.getD i 0 < 256
theorem BAt.lt {w : World} {A : Option Addr} {bs : List Nat} (h : BAt w A bs) (i : Nat) : bs.getD i 0 < 256 := h.2 i
theorem BAt.below {w w' : World} {A : Option Addr} {bs : List Nat} {B : Nat} (h : BAt w A bs) (hb : Below B w w') (hB : w.heap.size ≤ B) : BAt w' A bs := by
 refine ⟨?_, h.2⟩
 rcases h.1 with h | ⟨b, o, e, hs, hc⟩
 ·exact .inl h
 ·exact .inr ⟨b, o, e, Nat.lt_of_lt_of_le hs hb.size, fun i hi => (hb.cell (p := ⟨b, o + i, none⟩) (by exact Nat.lt_of_lt_of_le hs hB)).trans (hc i hi)⟩
end Go.Proofs.Ytkfjhndofbmhoaa
namespace Go.Proofs.Ytkfjhndofbmhoaa
open Go.RowKit
set_option linter.unusedVariables false
set_option linter.unusedSimpArgs false
theorem pow_pos' (k : Nat) : 0 < 65536 ^ k := Nat.pow_pos (by omega)
theorem mod_up (a k : Nat) : a % 65536 ^ (k + 1) = a % 65536 ^ k + 65536 ^ k * pt a k := by
 unfold pt; rw [Nat.pow_succ, Nat.mod_mul]
end Go.Proofs.Ytkfjhndofbmhoaa
namespace Go.Proofs.Ytkfjhndofbmhoaa
open Go.RowKit
set_option linter.unusedVariables false
set_option linter.unusedSimpArgs false
theorem cmp_next (a b k : Nat) : cmpI (a % 65536 ^ (k + 1)) (b % 65536 ^ (k + 1)) = if pt a k < pt b k then -1 else if pt b k < pt a k then 1 else cmpI (a % 65536 ^ k) (b % 65536 ^ k) := by
 rw [mod_up, mod_up]
 have hp := pow_pos' k
 have h1 := Nat.mod_lt a hp
 have h2 := Nat.mod_lt b hp
 generalize a % 65536 ^ k = A at *
 generalize b % 65536 ^ k = B at *
 generalize pt a k = p
 generalize pt b k = q
 generalize 65536 ^ k = M at *
 unfold cmpI
 by_cases hpq : p < q
 ·have : M * (p + 1) ≤ M * q := Nat.mul_le_mul_left _ hpq
  rw [Nat.mul_add] at this
  rw [if_pos (by omega), if_pos hpq]
 ·by_cases hqp : q < p
  ·have : M * (q + 1) ≤ M * p := Nat.mul_le_mul_left _ hqp
   rw [Nat.mul_add] at this
   rw [if_neg (by omega), if_pos (by omega), if_neg hpq, if_pos hqp]
  ·have e : p = q := by omega
   subst e
   rw [if_neg hpq, if_neg hpq]
   by_cases h3 : A < B
   ·rw [if_pos (by omega), if_pos h3]
   ·rw [if_neg (by omega), if_neg h3]
    by_cases h4 : B < A
    ·rw [if_pos (by omega), if_pos h4]
    ·rw [if_neg (by omega), if_neg h4]
theorem cmp_end (a b : Nat) (ha : a < N256) (hb : b < N256) : cmpI (a % 65536 ^ 16) (b % 65536 ^ 16) = cmpI a b := by
 have e : 65536 ^ 16 = N256 := by unfold N256; decide
 rw [e, Nat.mod_eq_of_lt ha, Nat.mod_eq_of_lt hb]
set_option maxRecDepth 100000 in
set_option maxHeartbeats 1600000 in
/-- clapperref01.Cmp -/
theorem rcmp_calls {va vb : Value} {a b : Nat} (ha : IsNum va a) (hb : IsNum vb b) (w : World) :
  Calls Try.prog 34 #[va, vb] w fun e w' => e = .returned (.int .i64 (cmpI a b)) ∧ Below w.heap.size w w' := by
 have HE := Lib.hid (cmp_end a b ha.2 hb.2)
 obtain ⟨rfl, ha⟩ := ha
 obtain ⟨rfl, hb⟩ := hb
 have P0 := fun w => parts_calls (IsNum.mk ha) w
 have P1 := fun w => parts_calls (IsNum.mk hb) w
 rw [numV_def] at P0 P1
 have K0 := Lib.hid P0; have K1 := Lib.hid P1
 clear P0 P1
 rw [numV_def, numV_def]
 go_enter Try.func34, Try.ntmps34
 go_wp2_with fail
 refine (K0.out _).mono ?_
 rintro e w1 ⟨gx, cx, rfl, hgx, hcx, rx, hb1⟩
 have hs1 : w.heap.size + 2 ≤ w1.heap.size := by have := hb1.size; simp at this; omega
 have hgx' : w.heap.size + 2 ≤ gx := by simp at hgx; omega
 have ry := ((Rw.new (n := w.heap.size + 1) (by simp))).below hb1 (by simp)
 obtain ⟨cy0, cy1, cy2, cy3⟩ := ry.four
 have hB1 : Below w.heap.size w w1 := (show Below w.heap.size w _ from by repeat (first | exact Below.refl _ _ | refine Below.drew ?_ | refine below_drewN ?_ _ | refine Below.alloc ?_ (by first | (simp; done) | (simp; omega)) _)).trans (hb1.mono (by simp; omega))
 have RX := Lib.hid rx
 have hzx := rx.size
 clear rx ry hb1 hgx
 go_wp2_with fail
 refine (K1.out _).mono ?_
 rintro e w2 ⟨gy, cy, rfl, hgy, hcy, ry, hb2⟩
 have rx2 := RX.out.below hb2 RX.out.size
 have hB2 := hB1.trans (hb2.mono (by omega))
 have RX2 := Lib.hid rx2; have RY2 := Lib.hid ry
 clear rx2 ry hb2 RX hgy cy0 cy1 cy2 cy3 hB1 hs1 hzx
 go_wp2
 go_loopw [7, 8] (fun c i wr => ∃ k : Nat, k ≤ 16 ∧ i = .int .i64 k ∧ c = .int .i64 (cmpI (a % 65536 ^ k) (b % 65536 ^ k)) ∧ Hid (Rw wr 3 gx (ptL a 16)) ∧ Hid (Rw wr 3 gy (ptL b 16)) ∧ Below w.heap.size w wr)
  (fun _ i _ => 16 - (intOf i).toNat)
 case atStart =>
  exact ⟨0, Nat.zero_le _, rfl, by rw [Nat.pow_zero, Nat.mod_one, Nat.mod_one]; rfl, RX2, RY2, hB2⟩
 case round =>
  obtain ⟨k, hk, rfl, rfl, HX, HY, hB⟩ := hrel
  by_cases hk16 : k < 16
  ·have cx := HX.out.cell (ptL_get _ _ _ hk16)
   have cy := HY.out.cell (ptL_get _ _ _ hk16)
   have HC := Lib.hid (cmp_next a b k)
   by_cases h1 : ((pt a k : Nat) : Int) < (pt b k : Nat)
   ·have h1' : ¬ ((pt b k : Nat) : Int) < (pt a k : Nat) := by omega
    go_wp2
    go_quiet (fail)
    go_wp2
    go_quiet (fail)
    go_wp2
    go_roundw
    case rel => exact ⟨k + 1, by omega, by go_num, by rw [HC.out, if_pos (by omega)], Lib.hid ((HX.out.drewN _)), Lib.hid ((HY.out.drewN _)), below_drewN hB _⟩
    case measure => simp [intOf]; omega
   ·by_cases h2 : ((pt b k : Nat) : Int) < (pt a k : Nat)
    ·go_wp2
     go_quiet (fail)
     go_wp2
     go_quiet (fail)
     go_wp2
     go_roundw
     case rel => exact ⟨k + 1, by omega, by go_num, by rw [HC.out, if_neg (by omega), if_pos (by omega)], Lib.hid ((HX.out.drewN _)), Lib.hid ((HY.out.drewN _)), below_drewN hB _⟩
     case measure => simp [intOf]; omega
    ·go_wp2
     go_quiet (fail)
     go_wp2
     go_quiet (fail)
     go_wp2
     go_roundw
     case rel => exact ⟨k + 1, by omega, by go_num, by rw [HC.out, if_neg (by omega), if_neg (by omega)], Lib.hid ((HX.out.drewN _)), Lib.hid ((HY.out.drewN _)), below_drewN hB _⟩
     case measure => simp [intOf]; omega
  ·have hk17 : k = 16 := by omega
   subst hk17
   go_wp2
   go_ret
   exact ⟨ret_int HE.out, hB⟩
end Go.Proofs.Ytkfjhndofbmhoaa
namespace Go.Proofs.Ytkfjhndofbmhoaa
open Go.RowKit
set_option linter.unusedVariables false
set_option linter.unusedSimpArgs false
section
variable {P : Program} (w : World)
theorem run_equalIn_iface_int (d : Nat) {ti tn : TypeId} {ms : Array (String × TypeId)} {i : TypeInfo} {k : IntKind} (a b : Int)
  (hi : P.underlying ti = some (.interface ms)) (hn : P.underlying tn = some (.int k)) (hinfo : P.info? tn = some i) (hcomp : i.comparable = true) :
  (Op.equalIn (d + 2) ti (.iface tn (.int k a)) (.iface tn (.int k b))).run P w = .ok (a == b) w := by
 simp [Op.equalIn, run_underlying hi, run_underlying hn, typeInfo, hinfo, hcomp]
theorem run_eql_iface_int {ti tn : TypeId} {ms : Array (String × TypeId)} {i : TypeInfo} {k : IntKind} (a b : Int)
  (hi : P.underlying ti = some (.interface ms)) (hn : P.underlying tn = some (.int k)) (hinfo : P.info? tn = some i) (hcomp : i.comparable = true) :
  (binOp .eql ti (.iface tn (.int k a)) (.iface tn (.int k b))).run P w = .ok (.bool (a == b)) w := by
 simp only [binOp]
 simp [Op.equal, Op.maxDepth, run_equalIn_iface_int w 9998 a b hi hn hinfo hcomp]
end
theorem eql_code (a b : Int) (w : World) : (binOp .eql 30 (.iface 38 (.int .i64 a)) (.iface 38 (.int .i64 b))).run Try.prog w = .ok (.bool (a == b)) w := by
 have hu : Try.prog.underlying 30 = some (.interface ((match Try.prog.underlying 30 with | some (.interface ms) => ms | _ => #[]))) := by kernel_rfl
 have hn : Try.prog.underlying 38 = some (.int .i64) := by kernel_rfl
 obtain ⟨i, hi, hc⟩ : ∃ i, Try.prog.info? 38 = some i ∧ i.comparable = true := by
  have h : (Try.prog.info? 38).map (·.comparable) = some true := by kernel_rfl
  cases hq : Try.prog.info? 38 with
  | none => rw [hq] at h; simp at h
  | some i => rw [hq] at h; exact ⟨i, rfl, by simpa using h⟩
 exact run_eql_iface_int w a b hu hn hi hc
end Go.Proofs.Ytkfjhndofbmhoaa
