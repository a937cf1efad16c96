/- What the proof of PointMultiples is made of, part 0. -/
import Derived.Test.YtkfjhndofbmhoaaProg
import Derived.WalkKit
import Derived.WalkLawsBesides
import Derived.DeepKeys
import Derived.Shelf.Spec.BitsCarry
namespace Go.Proofs.Ytkfjhndofbmhoaa
open Go.RowKit
set_option linter.unusedVariables false
set_option linter.unusedSimpArgs false
theorem ret_int {k : IntKind} {a b : Int} (h : a = b) : Ending.returned (.int k a) = .returned (.int k b) := by rw [h]
theorem ret_bool {a b : Bool} (h : a = b) : Ending.returned (.bool a) = .returned (.bool b) := by rw [h]
def N64 : Nat := 18446744073709551616
def N256 : Nat := 115792089237316195423570985008687907853269984665640564039457584007913129639936
def wd0 (a : Nat) : Nat := a % 18446744073709551616
def wd1 (a : Nat) : Nat := a / 18446744073709551616 % 18446744073709551616
def wd2 (a : Nat) : Nat := a / 340282366920938463463374607431768211456 % 18446744073709551616
def wd3 (a : Nat) : Nat := a / 6277101735386680763835789423207666416102355444464034512896 % 18446744073709551616
def val4 (x0 x1 x2 x3 : Nat) : Nat := x0 + 18446744073709551616 * x1 + 340282366920938463463374607431768211456 * x2 + 6277101735386680763835789423207666416102355444464034512896 * x3
theorem wd0_lt (a : Nat) : wd0 a < N64 := by unfold wd0 N64; omega
theorem wd1_lt (a : Nat) : wd1 a < N64 := by unfold wd1 N64; omega
theorem wd2_lt (a : Nat) : wd2 a < N64 := by unfold wd2 N64; omega
theorem wd3_lt (a : Nat) : wd3 a < N64 := by unfold wd3 N64; omega
theorem N256_pos : 0 < N256 := by unfold N256; omega
theorem val4_lt {x0 x1 x2 x3 : Nat} (h0 : x0 < N64) (h1 : x1 < N64) (h2 : x2 < N64) (h3 : x3 < N64) : val4 x0 x1 x2 x3 < N256 := by
 unfold val4 N256; unfold N64 at *; omega
theorem val_wd {a : Nat} (h : a < N256) : val4 (wd0 a) (wd1 a) (wd2 a) (wd3 a) = a := by
 unfold N256 at h
 unfold val4 wd0 wd1 wd2 wd3; omega
theorem wd0_val {x0 x1 x2 x3 : Nat} (h0 : x0 < N64) : wd0 (val4 x0 x1 x2 x3) = x0 := by
 unfold N64 at *; unfold val4 wd0; omega
theorem wd1_val {x0 x1 x2 x3 : Nat} (h0 : x0 < N64) (h1 : x1 < N64) : wd1 (val4 x0 x1 x2 x3) = x1 := by
 unfold N64 at *; unfold val4 wd1; omega
theorem wd2_val {x0 x1 x2 x3 : Nat} (h0 : x0 < N64) (h1 : x1 < N64) (h2 : x2 < N64) : wd2 (val4 x0 x1 x2 x3) = x2 := by
 unfold N64 at *; unfold val4 wd2; omega
theorem wd3_val {x0 x1 x2 x3 : Nat} (h0 : x0 < N64) (h1 : x1 < N64) (h2 : x2 < N64) (h3 : x3 < N64) : wd3 (val4 x0 x1 x2 x3) = x3 := by
 unfold N64 at *; unfold val4 wd3; omega
/-- The number as a value. -/
def numV (a : Nat) : Value := .agg #[.int .u64 (wd0 a : Nat), .int .u64 (wd1 a : Nat), .int .u64 (wd2 a : Nat), .int .u64 (wd3 a : Nat)]
theorem numV_def (a : Nat) : numV a = .agg #[.int .u64 (wd0 a : Nat), .int .u64 (wd1 a : Nat), .int .u64 (wd2 a : Nat), .int .u64 (wd3 a : Nat)] := rfl
theorem numV_of {x0 x1 x2 x3 : Nat} (h0 : x0 < N64) (h1 : x1 < N64) (h2 : x2 < N64) (h3 : x3 < N64) : (.agg #[.int .u64 (x0 : Nat), .int .u64 (x1 : Nat), .int .u64 (x2 : Nat), .int .u64 (x3 : Nat)] : Value) = numV (val4 x0 x1 x2 x3) := by
 rw [numV_def, wd0_val h0, wd1_val h0 h1, wd2_val h0 h1 h2, wd3_val h0 h1 h2 h3]
/-- A value is a number. -/
def IsNum (v : Value) (a : Nat) : Prop := v = numV a ∧ a < N256
theorem IsNum.mk {a : Nat} (h : a < N256) : IsNum (numV a) a := ⟨rfl, h⟩
theorem words_eq {a b : Nat} (ha : a < N256) (hb : b < N256) (h0 : wd0 a = wd0 b) (h1 : wd1 a = wd1 b) (h2 : wd2 a = wd2 b) (h3 : wd3 a = wd3 b) : a = b := by
 rw [← val_wd ha, ← val_wd hb, h0, h1, h2, h3]
/-- Wide numbers: eight words. -/
def wd4 (a : Nat) : Nat := a / 115792089237316195423570985008687907853269984665640564039457584007913129639936 % 18446744073709551616
def wd5 (a : Nat) : Nat := a / 2135987035920910082395021706169552114602704522356652769947041607822219725780640550022962086936576 % 18446744073709551616
def wd6 (a : Nat) : Nat := a / 39402006196394479212279040100143613805079739270465446667948293404245721771497210611414266254884915640806627990306816 % 18446744073709551616
def wd7 (a : Nat) : Nat := a / 726838724295606890549323807888004534353641360687318060281490199180639288113397923326191050713763565560762521606266177933534601628614656 % 18446744073709551616
def val8 (x0 x1 x2 x3 x4 x5 x6 x7 : Nat) : Nat := x0 + 18446744073709551616 * x1 + 340282366920938463463374607431768211456 * x2 + 6277101735386680763835789423207666416102355444464034512896 * x3 + 115792089237316195423570985008687907853269984665640564039457584007913129639936 * x4 + 2135987035920910082395021706169552114602704522356652769947041607822219725780640550022962086936576 * x5 + 39402006196394479212279040100143613805079739270465446667948293404245721771497210611414266254884915640806627990306816 * x6 + 726838724295606890549323807888004534353641360687318060281490199180639288113397923326191050713763565560762521606266177933534601628614656 * x7
def N512 : Nat := 13407807929942597099574024998205846127479365820592393377723561443721764030073546976801874298166903427690031858186486050853753882811946569946433649006084096
theorem wd0_val8 {x0 x1 x2 x3 x4 x5 x6 x7 : Nat} (h0 : x0 < N64) : wd0 (val8 x0 x1 x2 x3 x4 x5 x6 x7) = x0 := by
 unfold N64 at *; unfold val8 wd0; omega
theorem wd1_val8 {x0 x1 x2 x3 x4 x5 x6 x7 : Nat} (h0 : x0 < N64) (h1 : x1 < N64) : wd1 (val8 x0 x1 x2 x3 x4 x5 x6 x7) = x1 := by
 unfold N64 at *; unfold val8 wd1; omega
theorem wd2_val8 {x0 x1 x2 x3 x4 x5 x6 x7 : Nat} (h0 : x0 < N64) (h1 : x1 < N64) (h2 : x2 < N64) : wd2 (val8 x0 x1 x2 x3 x4 x5 x6 x7) = x2 := by
 unfold N64 at *; unfold val8 wd2; omega
theorem wd3_val8 {x0 x1 x2 x3 x4 x5 x6 x7 : Nat} (h0 : x0 < N64) (h1 : x1 < N64) (h2 : x2 < N64) (h3 : x3 < N64) : wd3 (val8 x0 x1 x2 x3 x4 x5 x6 x7) = x3 := by
 unfold N64 at *; unfold val8 wd3; omega
theorem wd4_val8 {x0 x1 x2 x3 x4 x5 x6 x7 : Nat} (h0 : x0 < N64) (h1 : x1 < N64) (h2 : x2 < N64) (h3 : x3 < N64) (h4 : x4 < N64) : wd4 (val8 x0 x1 x2 x3 x4 x5 x6 x7) = x4 := by
 unfold N64 at *; unfold val8 wd4; omega
theorem wd5_val8 {x0 x1 x2 x3 x4 x5 x6 x7 : Nat} (h0 : x0 < N64) (h1 : x1 < N64) (h2 : x2 < N64) (h3 : x3 < N64) (h4 : x4 < N64) (h5 : x5 < N64) : wd5 (val8 x0 x1 x2 x3 x4 x5 x6 x7) = x5 := by
 unfold N64 at *; unfold val8 wd5; omega
theorem wd6_val8 {x0 x1 x2 x3 x4 x5 x6 x7 : Nat} (h0 : x0 < N64) (h1 : x1 < N64) (h2 : x2 < N64) (h3 : x3 < N64) (h4 : x4 < N64) (h5 : x5 < N64) (h6 : x6 < N64) : wd6 (val8 x0 x1 x2 x3 x4 x5 x6 x7) = x6 := by
 unfold N64 at *; unfold val8 wd6; omega
theorem wd7_val8 {x0 x1 x2 x3 x4 x5 x6 x7 : Nat} (h0 : x0 < N64) (h1 : x1 < N64) (h2 : x2 < N64) (h3 : x3 < N64) (h4 : x4 < N64) (h5 : x5 < N64) (h6 : x6 < N64) (h7 : x7 < N64) : wd7 (val8 x0 x1 x2 x3 x4 x5 x6 x7) = x7 := by
 unfold N64 at *; unfold val8 wd7; omega
/-- The wide number as a value. -/
def wideV (a : Nat) : Value := .agg #[.int .u64 (wd0 a : Nat), .int .u64 (wd1 a : Nat), .int .u64 (wd2 a : Nat), .int .u64 (wd3 a : Nat), .int .u64 (wd4 a : Nat), .int .u64 (wd5 a : Nat), .int .u64 (wd6 a : Nat), .int .u64 (wd7 a : Nat)]
theorem wideV_def (a : Nat) : wideV a = .agg #[.int .u64 (wd0 a : Nat), .int .u64 (wd1 a : Nat), .int .u64 (wd2 a : Nat), .int .u64 (wd3 a : Nat), .int .u64 (wd4 a : Nat), .int .u64 (wd5 a : Nat), .int .u64 (wd6 a : Nat), .int .u64 (wd7 a : Nat)] := rfl
theorem wideV_of {x0 x1 x2 x3 x4 x5 x6 x7 : Nat} (h0 : x0 < N64) (h1 : x1 < N64) (h2 : x2 < N64) (h3 : x3 < N64) (h4 : x4 < N64) (h5 : x5 < N64) (h6 : x6 < N64) (h7 : x7 < N64) : (.agg #[.int .u64 (x0 : Nat), .int .u64 (x1 : Nat), .int .u64 (x2 : Nat), .int .u64 (x3 : Nat), .int .u64 (x4 : Nat), .int .u64 (x5 : Nat), .int .u64 (x6 : Nat), .int .u64 (x7 : Nat)] : Value) = wideV (val8 x0 x1 x2 x3 x4 x5 x6 x7) := by
 rw [wideV_def, wd0_val8 h0, wd1_val8 h0 h1, wd2_val8 h0 h1 h2, wd3_val8 h0 h1 h2 h3, wd4_val8 h0 h1 h2 h3 h4, wd5_val8 h0 h1 h2 h3 h4 h5, wd6_val8 h0 h1 h2 h3 h4 h5 h6, wd7_val8 h0 h1 h2 h3 h4 h5 h6 h7]
theorem mul_lt512 {a b : Nat} (ha : a < N256) (hb : b < N256) : a * b < N512 := by
 have h : a * b < N256 * N256 := Nat.mul_lt_mul'' ha hb
 have e : N256 * N256 = N512 := by unfold N256 N512; decide
 omega
theorem items_cons {P : Program} {d : Nat} {e : TypeId} {c : Nat} {xs ys : Array Value} {i : Nat} {is : List Nat} {a b : Value} {r s : Bool} {w : World}
  (ha : (part e xs (i * c)).run P w = .ok a w) (hb : (part e ys (i * c)).run P w = .ok b w) (he : (Op.equalIn d e a b).run P w = .ok r w) (hr : (Op.eqItems d e c xs ys is).run P w = .ok s w) : (Op.eqItems d e c xs ys (i :: is)).run P w = .ok (r && s) w := by
 rw [Op.eqItems]
 simp only [Sem.run_bind, ha, hb, he, Result.andThen_ok]
 cases r
 ·simp
 ·simpa using hr
theorem items_nil {P : Program} {d : Nat} {e : TypeId} {c : Nat} {xs ys : Array Value} {w : World} : (Op.eqItems d e c xs ys []).run P w = .ok true w := by simp [Op.eqItems]
theorem beq_cast (a b : Nat) : ((a : Int) == (b : Int)) = decide (a = b) := by
 rw [Bool.eq_iff_iff]; simp; omega
theorem eqA_num (d : Nat) (x0 x1 x2 x3 y0 y1 y2 y3 : Int) (w : World) : (Op.equalIn (d + 2) 24 (.agg #[.int .u64 x0, .int .u64 x1, .int .u64 x2, .int .u64 x3]) (.agg #[.int .u64 y0, .int .u64 y1, .int .u64 y2, .int .u64 y3])).run Try.prog w = .ok (x0 == y0 && (x1 == y1 && (x2 == y2 && (x3 == y3 && true)))) w := by
 have hu : Try.prog.underlying 24 = some (.array 4 22) := by kernel_rfl
 obtain ⟨i, hi⟩ : ∃ i, Try.prog.info? 22 = some i := Option.isSome_iff_exists.1 (by kernel_rfl)
 rw [run_equalIn_array w (d + 1) _ _ hu hi]
 have hc : Try.prog.cellsOf 22 = 1 := by kernel_rfl
 have he : Try.prog.underlying 22 = some (.int .u64) := by kernel_rfl
 have hp : Try.prog.plainKey 22 = true := by kernel_rfl
 have pt : ∀ (xs : Array Value) (off : Nat) (v : Value), xs[off]? = some v → (part 22 xs off).run Try.prog w = .ok v w := fun xs off v h => run_part_plain w hp h
 have eq : ∀ (a b : Int), (Op.equalIn (d + 1) 22 (.int .u64 a) (.int .u64 b)).run Try.prog w = .ok (a == b) w := fun a b => run_equalIn_int w d _ _ _ a b he
 rw [hc, show List.range 4 = [0, 1, 2, 3] from rfl, items_cons (pt _ _ _ rfl) (pt _ _ _ rfl) (eq _ _) (items_cons (pt _ _ _ rfl) (pt _ _ _ rfl) (eq _ _) (items_cons (pt _ _ _ rfl) (pt _ _ _ rfl) (eq _ _) (items_cons (pt _ _ _ rfl) (pt _ _ _ rfl) (eq _ _) items_nil)))]
/-- '==' on numbers. -/
theorem eql_words (x0 x1 x2 x3 y0 y1 y2 y3 : Int) (w : World) : (binOp .eql 24 (.agg #[.int .u64 x0, .int .u64 x1, .int .u64 x2, .int .u64 x3]) (.agg #[.int .u64 y0, .int .u64 y1, .int .u64 y2, .int .u64 y3])).run Try.prog w = .ok (.bool (x0 == y0 && (x1 == y1 && (x2 == y2 && (x3 == y3 && true))))) w := by
 rw [run_eql_struct, show (10000 : Nat) = 9998 + 2 from rfl, eqA_num]
 rfl
theorem words_beq {a b : Nat} (ha : a < N256) (hb : b < N256) : (((wd0 a : Nat) : Int) == (wd0 b : Nat) && (((wd1 a : Nat) : Int) == (wd1 b : Nat) && (((wd2 a : Nat) : Int) == (wd2 b : Nat) && (((wd3 a : Nat) : Int) == (wd3 b : Nat) && true)))) = decide (a = b) := by
 simp only [beq_cast]
 rw [Bool.eq_iff_iff]
 simp only [Bool.and_eq_true, decide_eq_true_eq, and_true]
 exact ⟨fun ⟨h0, h1, h2, h3⟩ => words_eq ha hb h0 h1 h2 h3, fun h => by rw [h]; exact ⟨rfl, rfl, rfl, rfl⟩⟩
theorem eql_num {a b : Nat} (ha : a < N256) (hb : b < N256) (w : World) : (binOp .eql 24 (numV a) (numV b)).run Try.prog w = .ok (.bool (decide (a = b))) w := by
 rw [numV_def, numV_def, eql_words, words_beq ha hb]
theorem neq_num {a b : Nat} (ha : a < N256) (hb : b < N256) (w : World) : (binOp .neq 24 (numV a) (numV b)).run Try.prog w = .ok (.bool (!decide (a = b))) w := by
 have h := eql_num ha hb w
 rw [numV_def, numV_def, run_eql_struct] at h
 rw [numV_def, numV_def, run_neq_struct]
 cases hr : (Op.equalIn 10000 24 (.agg #[.int .u64 (wd0 a : Nat), .int .u64 (wd1 a : Nat), .int .u64 (wd2 a : Nat), .int .u64 (wd3 a : Nat)]) (.agg #[.int .u64 (wd0 b : Nat), .int .u64 (wd1 b : Nat), .int .u64 (wd2 b : Nat), .int .u64 (wd3 b : Nat)])).run Try.prog w with
 | ok r w1 => rw [hr] at h; simp only [Result.andThen_ok] at h ⊢; injection h with h1 h2; injection h1 with h1; rw [h1, h2]
 | halt x w1 => rw [hr] at h; simp [Result.andThen] at h
end Go.Proofs.Ytkfjhndofbmhoaa
namespace Go.Proofs.Ytkfjhndofbmhoaa
open Go.RowKit
set_option linter.unusedVariables false
set_option linter.unusedSimpArgs false
/-- Block g holds cells of type e, not frozen, and begins with xs. -/
def Rw (w : World) (e : TypeId) (g : Nat) (xs : List Value) : Prop := ∃ cur : Array Value, w.heap[g]? = some (.cells cur e (0, 0)) ∧ cur.toList.take xs.length = xs
theorem Rw.size {w : World} {e : TypeId} {g : Nat} {xs : List Value} (h : Rw w e g xs) : g < w.heap.size := by
 obtain ⟨cur, hc, _⟩ := h
 exact (Array.getElem?_eq_some_iff.1 hc).1
theorem Rw.cell {w : World} {e : TypeId} {g : Nat} {xs : List Value} (h : Rw w e g xs) {j : Nat} {v : Value} (hv : xs[j]? = some v) : w.cell? ⟨g, j, none⟩ = some v := by
 obtain ⟨cur, hc, ht⟩ := h
 have hj : j < xs.length := (List.getElem?_eq_some_iff.1 hv).1
 rw [← ht, List.getElem?_take_of_lt hj] at hv
 simp [World.cell?, hc]
 simpa using hv
theorem Rw.free {w : World} {e : TypeId} {g : Nat} {xs : List Value} (h : Rw w e g xs) (j : Nat) : w.frozen? ⟨g, j, none⟩ = false := by
 obtain ⟨cur, hc, ht⟩ := h
 simp [World.frozen?, hc]
theorem Rw.block {w w' : World} {e : TypeId} {g : Nat} {xs : List Value} (h : Rw w e g xs) (hb : w'.heap[g]? = w.heap[g]?) : Rw w' e g xs := by
 obtain ⟨cur, hc, ht⟩ := h
 exact ⟨cur, by rw [hb]; exact hc, ht⟩
theorem Rw.alloc {w : World} {e : TypeId} {g : Nat} {xs : List Value} (h : Rw w e g xs) (o : Obj) : Rw (w.alloc o) e g xs :=
 h.block (Below.heap_alloc _ _ _ h.size)
theorem Rw.drew {w : World} {e : TypeId} {g : Nat} {xs : List Value} (h : Rw w e g xs) : Rw w.drew e g xs := h
theorem Rw.drewN {w : World} {e : TypeId} {g : Nat} {xs : List Value} (h : Rw w e g xs) (n : Nat) : Rw (w.drewN n) e g xs := h
theorem Rw.below {w w' : World} {B : Nat} {e : TypeId} {g : Nat} {xs : List Value} (h : Rw w e g xs) (hb : Below B w w') (hg : g < B) : Rw w' e g xs := h.block (hb.block g hg)
theorem Rw.set_other {w : World} {e : TypeId} {g : Nat} {xs : List Value} (h : Rw w e g xs) {a : Addr} (ha : g ≠ a.block) (u : Value) : Rw (w.setCell a u) e g xs := h.block (Below.heap_setCell _ _ _ _ ha)
theorem Rw.set {w : World} {e : TypeId} {g : Nat} {xs : List Value} (h : Rw w e g xs) (j : Nat) (u : Value) : Rw (w.setCell ⟨g, j, none⟩ u) e g (xs.set j u) := by
 obtain ⟨cur, hc, ht⟩ := h
 refine ⟨cur.setIfInBounds j u, ?_, ?_⟩
 ·simp [World.setCell, Array.getElem?_modify, hc]
 ·rw [List.length_set, Array.toList_setIfInBounds, List.take_set, ht]
theorem Rw.of_owns {w : World} {base : Nat} {e : TypeId} {v : Value} {n : Nat} {xs : List Value} (h : w.ownsRow base e 1 v n xs) (hn : n ≠ 0) :
  ∃ g cap, v = .slice (some ⟨g, 0, none⟩) n cap ∧ base ≤ g ∧ n ≤ cap ∧ Rw w e g xs := by
 obtain ⟨hl, h | ⟨g, cap, cur, hv, hg, hh, hc, hm, hs, ht⟩⟩ := h
 ·exact absurd h.2 hn
 ·exact ⟨g, cap, hv, hg, hc, cur, hh, by rw [hl]; exact ht⟩
theorem Rw.new {w : World} {e : TypeId} {xs : Array Value} {n : Nat} (hn : n = w.heap.size) : Rw (w.alloc (.cells xs e)) e n xs.toList := by
 subst hn
 refine ⟨xs, ?_, by rw [Array.length_toList]; exact List.take_of_length_le (by simp)⟩
 show (w.heap.push _)[w.heap.size]? = _
 rw [Array.getElem?_push, if_pos rfl]
theorem Rw.four {w : World} {e : TypeId} {g : Nat} {x0 x1 x2 x3 : Value} (h : Rw w e g [x0, x1, x2, x3]) :
  w.cell? ⟨g, 0, none⟩ = some x0 ∧ w.cell? ⟨g, 1, none⟩ = some x1 ∧ w.cell? ⟨g, 2, none⟩ = some x2 ∧ w.cell? ⟨g, 3, none⟩ = some x3 := ⟨h.cell rfl, h.cell rfl, h.cell rfl, h.cell rfl⟩
/-- part j of a number: 16 bits -/
def pt (a j : Nat) : Nat := a / 65536 ^ j % 65536
theorem pt_lt (a j : Nat) : pt a j < 65536 := Nat.mod_lt _ (by omega)
/-- a function's first m values, as cells -/
def fnL (f : Nat → Nat) (m : Nat) : List Value := (List.range m).map fun j => .int .i64 (f j : Nat)
theorem fnL_succ (f : Nat → Nat) (m : Nat) : fnL f (m + 1) = fnL f m ++ [.int .i64 (f m : Nat)] := by simp [fnL, List.range_succ]
theorem fnL_get (f : Nat → Nat) (m j : Nat) (h : j < m) : (fnL f m)[j]? = some (.int .i64 (f j : Nat)) := by simp [fnL, h]
/-- the first m parts, as cells -/
abbrev ptL (a m : Nat) : List Value := fnL (pt a) m
theorem ptL_succ (a m : Nat) : ptL a (m + 1) = ptL a m ++ [.int .i64 (pt a m : Nat)] := fnL_succ _ _
theorem ptL_get (a m j : Nat) (h : j < m) : (ptL a m)[j]? = some (.int .i64 (pt a j : Nat)) := fnL_get _ _ _ h
end Go.Proofs.Ytkfjhndofbmhoaa
namespace Go.Proofs.Ytkfjhndofbmhoaa
set_option linter.unusedVariables false
set_option linter.unusedSectionVars false
set_option linter.unusedSimpArgs false
namespace Pr
def Prime (p : Nat) : Prop := 1 < p ∧ ∀ d, d ∣ p → d = 1 ∨ d = p
theorem php : ∀ (n m : Nat) (g : Nat → Nat), (∀ i, i < m → g i < n) → (∀ i j, i < m → j < m → g i = g j → i = j) → m ≤ n
 | 0, m, g, h1, h2 => by
  cases m with
  | zero => exact Nat.le_refl _
  | succ m => exact absurd (h1 0 (by omega)) (by omega)
 | n + 1, 0, g, h1, h2 => Nat.zero_le _
 | n + 1, m + 1, g, h1, h2 => by
  have h := php n m (fun i => if g i = n then g m else g i) (fun i hi => by
   have a1 := h1 i (by omega)
   have a2 := h1 m (by omega)
   by_cases e : g i = n
   ·rw [if_pos e]
    have a3 : g m ≠ n := fun e2 => by have := h2 i m (by omega) (by omega) (by rw [e, e2]); omega
    omega
   ·rw [if_neg e]; omega) (fun i j hi hj e => by
   by_cases e1 : g i = n <;> by_cases e2 : g j = n
   ·exact h2 i j (by omega) (by omega) (by rw [e1, e2])
   ·simp only [if_pos e1, if_neg e2] at e
    have := h2 m j (by omega) (by omega) e
    omega
   ·simp only [if_pos e2, if_neg e1] at e
    have := h2 i m (by omega) (by omega) e
    omega
   ·simp only [if_neg e1, if_neg e2] at e
    exact h2 i j (by omega) (by omega) e)
  omega
/-- powers modulo f that are 1 -/
theorem pow_one_mul {x f i : Nat} (h : x ^ i % f = 1 % f) (k : Nat) : x ^ (i * k) % f = 1 % f := by
 rw [Nat.pow_mul, Nat.pow_mod, h, ← Nat.pow_mod, Nat.one_pow]
theorem pow_gcd {x f : Nat} : ∀ (i j : Nat), x ^ i % f = 1 % f → x ^ j % f = 1 % f → x ^ (Nat.gcd i j) % f = 1 % f := by
 intro i j
 induction i, j using Nat.gcd.induction with
 | H0 n => intro _ h; rw [Nat.gcd_zero_left]; exact h
 | H1 m n hm ih =>
  intro h1 h2
  rw [Nat.gcd_rec]
  refine ih ?_ h1
  have e : x ^ n = x ^ (m * (n / m)) * x ^ (n % m) := by rw [← Nat.pow_add, Nat.div_add_mod]
  rw [e, Nat.mul_mod, pow_one_mul h1, ← Nat.mul_mod, Nat.one_mul] at h2
  exact h2
/-- an element whose powers are 1 at F alone: F is below f -/
theorem order_le {x f F : Nat} (hf : 1 < f) (hF : 0 < F) (h1 : x ^ F % f = 1) (h2 : ∀ g, g ∣ F → g ≠ F → x ^ g % f ≠ 1) : F < f := by
 have h1' : x ^ F % f = 1 % f := by rw [h1, Nat.mod_eq_of_lt hf]
 have hk : ∀ k, 0 < k → k < F → x ^ k % f ≠ 1 := by
  intro k hk hkF e
  have e' : x ^ k % f = 1 % f := by rw [e, Nat.mod_eq_of_lt hf]
  have h3 := pow_gcd k F e' h1'
  rw [Nat.mod_eq_of_lt hf] at h3
  have h4 := Nat.gcd_le_left F hk
  exact h2 (Nat.gcd k F) (Nat.gcd_dvd_right k F) (by omega) h3
 have hu : ∀ k, k ≤ F → x ^ k * x ^ (F - k) % f = 1 := by
  intro k hk
  rw [← Nat.pow_add, show k + (F - k) = F by omega, h1]
 -- the powers are distinct and not 0
 have h5 := php (f - 1) F (fun i => x ^ i % f - 1) (fun i hi => by
  have a := Nat.mod_lt (x ^ i) (show 0 < f by omega)
  show x ^ i % f - 1 < f - 1
  omega) (fun i j hi hj e => by
  have nz : ∀ k, k < F → x ^ k % f ≠ 0 := by
   intro k hk e0
   have h := hu k (by omega)
   rw [Nat.mul_mod, e0, Nat.zero_mul, Nat.zero_mod] at h
   omega
  have e2 : x ^ i % f = x ^ j % f := by
   have a1 := nz i hi
   have a2 := nz j hj
   have e : x ^ i % f - 1 = x ^ j % f - 1 := e
   omega
  have key : ∀ i j, i < j → j < F → x ^ i % f = x ^ j % f → False := by
   intro i j hij hj e
   have h := hu i (by omega)
   have h6 : x ^ (j - i) % f = 1 := by
    have h7 : x ^ j * x ^ (F - i) % f = 1 := by rw [Nat.mul_mod, ← e, ← Nat.mul_mod, h]
    rw [show x ^ j = x ^ (j - i) * x ^ i by rw [← Nat.pow_add]; congr 1; omega, Nat.mul_assoc, Nat.mul_mod, h, Nat.mul_one, Nat.mod_mod] at h7
    exact h7
   exact hk (j - i) (by omega) (by omega) h6
  rcases Nat.lt_trichotomy i j with h | h | h
  ·exact (key i j h hj e2).elim
  ·exact h
  ·exact (key j i h hi e2.symm).elim)
 omega
theorem small_factor {n d : Nat} (hd : d ∣ n) (h1 : d ≠ 1) (h2 : d ≠ n) (hn : 1 < n) : ∃ f, f ∣ n ∧ 1 < f ∧ f * f ≤ n := by
 obtain ⟨e, rfl⟩ := hd
 have hd0 : 0 < d := Nat.pos_of_ne_zero (fun h => by subst h; omega)
 have he0 : 0 < e := Nat.pos_of_ne_zero (fun h => by subst h; omega)
 by_cases h : d ≤ e
 ·exact ⟨d, ⟨e, rfl⟩, by omega, Nat.mul_le_mul_left d h⟩
 ·refine ⟨e, ⟨d, Nat.mul_comm _ _⟩, ?_, Nat.mul_le_mul_right e (by omega)⟩
  rcases Nat.lt_or_ge 1 e with h | h
  ·exact h
  ·have : e = 1 := by omega
   subst this
   omega
/-- what a witness tells of a factor -/
theorem wit {n f a k : Nat} (hn : 0 < n) (hf : f ∣ n) (hf1 : 1 < f) (h : Nat.gcd (a ^ k % n + (n - 1)) n = 1) : a ^ k % f ≠ 1 := by
 intro e
 have h2 : f ∣ a ^ k % n + (n - 1) := by
  refine Nat.dvd_of_mod_eq_zero ?_
  obtain ⟨c, rfl⟩ := hf
  have e3 : a ^ k % (f * c) % f = 1 := by rw [Nat.mod_mul_right_mod, e]
  have hc : 0 < c := Nat.pos_of_ne_zero (fun h0 => by subst h0; omega)
  rw [Nat.add_mod, e3]
  obtain ⟨c', rfl⟩ : ∃ c', c = c' + 1 := ⟨c - 1, by omega⟩
  have e4 : (f * (c' + 1) - 1) % f = f - 1 := by
   rw [Nat.mul_succ, show f * c' + f - 1 = f - 1 + f * c' by omega, Nat.add_mul_mod_self_left]
   exact Nat.mod_eq_of_lt (by omega)
  rw [e4, show 1 + (f - 1) = f by omega, Nat.mod_self]
 have h3 := Nat.dvd_gcd h2 hf
 rw [h] at h3
 have := Nat.dvd_one.1 h3
 omega
theorem prime_of {n F a : Nat} (hn : 1 < n) (hF : 0 < F) (hFF : n < F * F) (h1 : a ^ (n - 1) % n = 1) (r : Nat) (hr : n - 1 = r * F)
  (h2 : ∀ f, f ∣ n → 1 < f → ∀ g, g ∣ F → g ≠ F → a ^ (r * g) % f ≠ 1) : Prime n := by
 refine ⟨hn, fun d hd => ?_⟩
 by_cases d1 : d = 1
 ·exact .inl d1
 by_cases d2 : d = n
 ·exact .inr d2
 exfalso
 obtain ⟨f, hf, hf1, hff⟩ := small_factor hd d1 d2 hn
 have h3 : (a ^ r) ^ F % f = 1 := by
  rw [← Nat.pow_mul, ← hr]
  obtain ⟨c, rfl⟩ := hf
  have e3 : a ^ (f * c - 1) % (f * c) % f = a ^ (f * c - 1) % f := Nat.mod_mul_right_mod _ _ _
  rw [← e3, h1, Nat.mod_eq_of_lt hf1]
 have h4 := order_le hf1 hF h3 (fun g hg hgF => by rw [← Nat.pow_mul]; exact h2 f hf hf1 g hg hgF)
 have h5 : F * F ≤ f * f := Nat.mul_le_mul (by omega) (by omega)
 omega
theorem pow_dvd_one {a f k m : Nat} (hf : 1 < f) (h : a ^ k % f = 1) (hd : k ∣ m) : a ^ m % f = 1 := by
 obtain ⟨c, rfl⟩ := hd
 have := pow_one_mul (x := a) (f := f) (i := k) (by rw [h, Nat.mod_eq_of_lt hf]) c
 rw [this, Nat.mod_eq_of_lt hf]
/-- one prime -/
theorem pock1 {n q r a : Nat} (hn : 1 < n) (hq : Prime q) (hr : n - 1 = r * q) (hqq : n < q * q) (h1 : a ^ (n - 1) % n = 1) (h2 : Nat.gcd (a ^ r % n + (n - 1)) n = 1) : Prime n :=
 prime_of hn (by have := hq.1; omega) hqq h1 r hr (fun f hf hf1 g hg hgF => by
  rcases hq.2 g hg with rfl | h
  ·rw [Nat.mul_one]; exact wit (by omega) hf hf1 h2
  ·exact absurd h hgF)
/-- two primes -/
theorem pock2 {n p q r a : Nat} (hn : 1 < n) (hp : Prime p) (hq : Prime q) (hr : n - 1 = r * (p * q)) (hqq : n < p * q * (p * q)) (h1 : a ^ (n - 1) % n = 1)
  (h2 : Nat.gcd (a ^ (r * p) % n + (n - 1)) n = 1) (h3 : Nat.gcd (a ^ (r * q) % n + (n - 1)) n = 1) : Prime n :=
 prime_of hn (Nat.mul_pos (by have := hp.1; omega) (by have := hq.1; omega)) hqq h1 r hr (fun f hf hf1 g hg hgF e => by
  have hgp : g ∣ p ∨ g ∣ q := by
   by_cases hc : Nat.gcd g p = 1
   ·exact .inr (Nat.Coprime.dvd_of_dvd_mul_left hc hg)
   ·have h4 := hp.2 _ (Nat.gcd_dvd_right g p)
    have h5 : Nat.gcd g p = p := by rcases h4 with h | h; exact absurd h hc; exact h
    have h6 : p ∣ g := h5 ▸ Nat.gcd_dvd_left g p
    obtain ⟨c, rfl⟩ := h6
    have h7 : c ∣ q := Nat.dvd_of_mul_dvd_mul_left (by have := hp.1; omega) hg
    rcases hq.2 c h7 with rfl | rfl
    ·left; rw [Nat.mul_one]; exact Nat.dvd_refl _
    ·exact absurd rfl hgF
  rcases hgp with h | h
  ·exact wit (by omega) hf hf1 h2 (pow_dvd_one hf1 e (Nat.mul_dvd_mul_left r h))
  ·exact wit (by omega) hf hf1 h3 (pow_dvd_one hf1 e (Nat.mul_dvd_mul_left r h)))
/-- trial division -/
def trial (n : Nat) : Nat → Nat → Bool
 | 0, _ => true
 | k + 1, d => n % d != 0 && trial n k (d + 1)
theorem trial_spec (n : Nat) : ∀ (k d : Nat), trial n k d = true → ∀ e, d ≤ e → e < d + k → ¬ e ∣ n
 | 0, d, _, e, h1, h2 => by omega
 | k + 1, d, h, e, h1, h2 => by
  unfold trial at h
  rw [Bool.and_eq_true] at h
  by_cases he : e = d
  ·subst he
   intro hd
   have := Nat.mod_eq_zero_of_dvd hd
   simp [this] at h
  ·exact trial_spec n k (d + 1) h.2 e (by omega) (by omega)
theorem prime_trial {n k : Nat} (hn : 1 < n) (hk : n < (k + 2) * (k + 2)) (h : trial n k 2 = true) : Prime n := by
 refine ⟨hn, fun d hd => ?_⟩
 by_cases d1 : d = 1
 ·exact .inl d1
 by_cases d2 : d = n
 ·exact .inr d2
 exfalso
 obtain ⟨f, hf, hf1, hff⟩ := small_factor hd d1 d2 hn
 have h2 := trial_spec n k 2 h f (by omega)
 by_cases h3 : f < 2 + k
 ·exact h2 h3 hf
 ·have : (k + 2) * (k + 2) ≤ f * f := Nat.mul_le_mul (by omega) (by omega)
  omega
/-- powers, quickly -/
def pm (n : Nat) : Nat → Nat → Nat → Nat
 | 0, _, _ => 1 % n
 | k + 1, a, e => let h := pm n k (a * a % n) (e / 2); if e % 2 = 1 then a * h % n else h
theorem pm_spec (n : Nat) : ∀ (k a e : Nat), e < 2 ^ k → pm n k a e = a ^ e % n
 | 0, a, e, h => by
  have : e = 0 := by simpa using h
  subst this
  rfl
 | k + 1, a, e, h => by
  unfold pm
  have ih := pm_spec n k (a * a % n) (e / 2) (by rw [Nat.pow_succ] at h; omega)
  simp only [ih]
  have e1 : a ^ e = (a * a) ^ (e / 2) * a ^ (e % 2) := by
   rw [← Nat.pow_two, ← Nat.pow_mul, ← Nat.pow_add, Nat.div_add_mod]
  rw [← Nat.pow_mod]
  split
  ·rename_i h1
   rw [e1, h1, Nat.pow_one, Nat.mul_mod, Nat.mod_mod, ← Nat.mul_mod, Nat.mul_comm]
  ·rename_i h1
   have h0 : e % 2 = 0 := by omega
   rw [e1, h0, Nat.pow_zero, Nat.mul_one]
/-- a certificate, reckoned -/
def cert1 (n q r a : Nat) : Bool := decide (1 < n) && (decide (n - 1 = r * q) && (decide (n < q * q) && (decide (n < 2 ^ 256) && (decide (pm n 256 a (n - 1) = 1) && decide (Nat.gcd (pm n 256 a r + (n - 1)) n = 1)))))
theorem cert1_ok {n q : Nat} (r a : Nat) (hq : Prime q) (hrn : r ≤ n) (h : cert1 n q r a = true) : Prime n := by
 simp only [cert1, Bool.and_eq_true, decide_eq_true_eq] at h
 obtain ⟨h1, h2, h3, h4, h5, h6⟩ := h
 rw [pm_spec n 256 a _ (by omega)] at h5
 rw [pm_spec n 256 a _ (by omega)] at h6
 exact pock1 h1 hq h2 h3 h5 h6
def cert2 (n p q r a : Nat) : Bool := decide (1 < n) && (decide (n - 1 = r * (p * q)) && (decide (n < p * q * (p * q)) && (decide (n < 2 ^ 256 ∧ r * p < 2 ^ 256 ∧ r * q < 2 ^ 256) && (decide (pm n 256 a (n - 1) = 1) && (decide (Nat.gcd (pm n 256 a (r * p) + (n - 1)) n = 1) && decide (Nat.gcd (pm n 256 a (r * q) + (n - 1)) n = 1))))))
theorem cert2_ok {n p q : Nat} (r a : Nat) (hp : Prime p) (hq : Prime q) (h : cert2 n p q r a = true) : Prime n := by
 simp only [cert2, Bool.and_eq_true, decide_eq_true_eq] at h
 obtain ⟨h1, h2, h3, ⟨h4, h7, h8⟩, h5, h6, h9⟩ := h
 rw [pm_spec n 256 a _ (by omega)] at h5
 rw [pm_spec n 256 a _ (by omega)] at h6
 rw [pm_spec n 256 a _ (by omega)] at h9
 exact pock2 h1 hp hq h2 h3 h5 h6 h9
/-- the field's modulus, and how many points there are -/
def qP : Nat := 0xffffffff00000001000000000000000000000000ffffffffffffffffffffffff
theorem pr_107 : Prime 107 := prime_trial (k := 11) (by decide) (by decide) (by decide +kernel)
theorem pr_3769 : Prime 3769 := prime_trial (k := 62) (by decide) (by decide) (by decide +kernel)
theorem pr_78283 : Prime 78283 := prime_trial (k := 280) (by decide) (by decide) (by decide +kernel)
theorem pr_704251 : Prime 704251 := prime_trial (k := 840) (by decide) (by decide) (by decide +kernel)
theorem pr_204061199 : Prime 204061199 := cert2_ok 506 2 pr_3769 pr_107 (by decide +kernel)
theorem pr_34282281433 : Prime 34282281433 := cert1_ok 168 2 pr_204061199 (by decide +kernel) (by decide +kernel)
theorem pr_46076956964474543 : Prime 46076956964474543 := cert2_ok 835774 2 pr_704251 pr_78283 (by decide +kernel)
theorem pr_774023187263532362759620327192479577272145303 : Prime 774023187263532362759620327192479577272145303 := cert2_ok 490004948148173658 2 pr_46076956964474543 pr_34282281433 (by decide +kernel)
theorem pr_835945042244614951780389953367877943453916927241 : Prime 835945042244614951780389953367877943453916927241 := cert1_ok 1080 2 pr_774023187263532362759620327192479577272145303 (by decide +kernel) (by decide +kernel)
theorem pr_qP : Prime qP := cert1_ok 138516389665330497628477975950 2 pr_835945042244614951780389953367877943453916927241 (by decide +kernel) (by decide +kernel)
end Pr
namespace Pr
theorem euclid {q a b : Nat} (hq : Prime q) (h : q ∣ a * b) : q ∣ a ∨ q ∣ b := by
 by_cases ha : q ∣ a
 ·exact .inl ha
 ·refine .inr ?_
  have hg : Nat.gcd q a = 1 := by
   rcases hq.2 _ (Nat.gcd_dvd_left q a) with e | e
   ·exact e
   ·exact (ha (e ▸ Nat.gcd_dvd_right q a)).elim
  exact Nat.Coprime.dvd_of_dvd_mul_left (show Nat.Coprime q a from hg) h
/-- what is not 0 modulo a prime has an inverse -/
theorem inv_ex {p d : Nat} (hp : Prime p) (hd : 0 < d) (hdp : d < p) : ∃ a, a < p ∧ d * a % p = 1 := by
 apply Classical.byContradiction
 intro hno
 have hp1 := hp.1
 have hno' : ∀ i, i < p → d * i % p ≠ 1 := fun i hi e => hno ⟨i, hi, e⟩
 have inj : ∀ i j, i ≤ j → j < p → d * i % p = d * j % p → i = j := by
  intro i j hij hj e
  have h : p ∣ d * (j - i) := by
   have := Nat.dvd_of_mod_eq_zero (Nat.sub_mod_eq_zero_of_mod_eq e.symm)
   rw [Nat.mul_sub]
   exact this
  rcases euclid hp h with h2 | h2
  ·have := Nat.le_of_dvd hd h2
   omega
  ·by_cases e2 : j - i = 0
   ·omega
   ·have := Nat.le_of_dvd (by omega) h2
    omega
 have := php (p - 1) p (fun i => if d * i % p = 0 then 0 else d * i % p - 1) (fun i hi => by
  have a3 := Nat.mod_lt (d * i) (show 0 < p by omega)
  split <;> omega) (fun i j hi hj e => by
  have a2 := hno' i hi
  have b2 := hno' j hj
  have e2 : d * i % p = d * j % p := by
   split at e <;> split at e <;> omega
  rcases Nat.le_total i j with h | h
  ·exact inj i j h hj e2
  ·exact (inj j i h hi e2.symm).symm)
 omega
end Pr
end Go.Proofs.Ytkfjhndofbmhoaa
namespace Go.Proofs.Ytkfjhndofbmhoaa
set_option linter.unusedVariables false
set_option linter.unusedSectionVars false
set_option linter.unusedSimpArgs false
namespace EC
variable {p : Nat} [NeZero p]
/-- what is not 0 has an inverse -/
structure Fd (p : Nat) [NeZero p] : Prop where
 inv : ∀ x : Fin p, x ≠ 0 → ∃ v, x * v = 1
variable [H : Nonempty (Fd p)]
theorem inv (x : Fin p) (h : x ≠ 0) : ∃ v, x * v = 1 := H.elim fun h2 => h2.inv x h
theorem neq {x y : Fin p} (h : x ≠ y) : ∃ v, (x - y) * v = 1 := inv _ (fun e => h (by grobner))
theorem nz {x : Fin p} {v : Fin p} (h1 : (1 : Fin p) ≠ 0) (h : x * v = 1) : x ≠ 0 := fun e => h1 (by grobner)
theorem can {d x y : Fin p} (hd : d ≠ 0) (h : d*x = d*y) : x = y := by
 obtain ⟨v, hv⟩ := inv d hd
 grobner
theorem zd {x y : Fin p} (h : x*y = 0) : x = 0 ∨ y = 0 := by
 by_cases hx : x = 0
 ·exact .inl hx
 ·exact .inr (can hx (by grobner))
theorem eqf {x y : Fin p} (h : ∀ w, (x - y)*w = 1 → (1 : Fin p) = 0) : x = y := by
 by_cases e : x = y
 ·exact e
 ·obtain ⟨w, hw⟩ := neq e
  have := h w hw
  grobner
open Classical in
noncomputable def iv (x : Fin p) : Fin p := if h : ∃ v, x * v = 1 then Classical.choose h else 0
theorem ivm {x : Fin p} (hx : x ≠ 0) : x * iv x = 1 := by
 unfold EC.iv
 rw [dif_pos (inv x hx)]
 exact Classical.choose_spec (inv x hx)
inductive Pt (p : Nat) | far | affp (x y : Fin p)
open Pt
/-- P, Q, -S lie on the line y = a x + k -/
structure Line (b x1 y1 x2 y2 xs ys a k : Fin p) : Prop where
 e1 : a*a = x1+x2+xs
 e2 : x1*x2+x1*xs+x2*xs = -3 - 2*a*k
 e3 : x1*x2*xs = k*k - b
 p : y1 = a*x1+k
 q : y2 = a*x2+k
 s : -ys = a*xs+k
def On (b : Fin p) : Pt p → Prop
 | far => True
 | affp x y => y*y = x*x*x - 3*x + b
def neg : Pt p → Pt p
 | far => far
 | affp x y => affp x (-y)
noncomputable def slope (x1 y1 x2 y2 : Fin p) : Fin p := if x1 = x2 ∧ y1 = y2 then 3*(x1*x1-1) * iv (y1+y1) else (y2-y1) * iv (x2-x1)
noncomputable def add : Pt p → Pt p → Pt p
 | far, Q => Q
 | P, far => P
 | affp x1 y1, affp x2 y2 => if x1 = x2 ∧ y1 = -y2 then far else
   let l := slope x1 y1 x2 y2
   let x := l*l - x1 - x2
   affp x (l*(x1-x) - y1)
theorem add_pt (x1 y1 x2 y2 : Fin p) : add (affp x1 y1) (affp x2 y2) = if x1 = x2 ∧ y1 = -y2 then far else affp (slope x1 y1 x2 y2 * slope x1 y1 x2 y2 - x1 - x2) (slope x1 y1 x2 y2 * (x1 - (slope x1 y1 x2 y2 * slope x1 y1 x2 y2 - x1 - x2)) - y1) := rfl
theorem add_opp {x1 y1 x2 y2 : Fin p} (h : x1 = x2 ∧ y1 = -y2) : add (affp x1 y1) (affp x2 y2) = far := by rw [add_pt, if_pos h]
theorem far_add (P : Pt p) : add far P = P := by cases P <;> rfl
theorem add_far (P : Pt p) : add P far = P := by cases P <;> rfl
theorem chord_line (b x1 y1 x2 y2 a xs ys : Fin p)
 (h1 : y1*y1 = x1*x1*x1 - 3*x1 + b) (h2 : y2*y2 = x2*x2*x2 - 3*x2 + b)
 (hl : a*(x2-x1) = y2-y1) (hx : x2 - x1 ≠ 0)
 (h3 : xs = a*a - x1 - x2) (h4 : ys = a*(x1-xs) - y1) : Line b x1 y1 x2 y2 xs ys a (y1 - a*x1) := by
 obtain ⟨v, hv⟩ := inv _ hx
 refine ⟨?_, ?_, ?_, ?_, ?_, ?_⟩ <;> (refine eqf fun w hw => ?_; grobner)
theorem tang_line (b x1 y1 a xs ys : Fin p)
 (h1 : y1*y1 = x1*x1*x1 - 3*x1 + b) 
 (hl : a*(y1+y1) = 3*(x1*x1-1)) (hx : y1+y1 ≠ 0)
 (h3 : xs = a*a - x1 - x1) (h4 : ys = a*(x1-xs) - y1) : Line b x1 y1 x1 y1 xs ys a (y1 - a*x1) := by
 refine ⟨?_, ?_, ?_, ?_, ?_, ?_⟩ <;> (refine eqf fun w hw => ?_; grobner)
theorem add_spec {b x1 y1 x2 y2 : Fin p} (h1 : On b (affp x1 y1)) (h2 : On b (affp x2 y2)) (hne : ¬(x1 = x2 ∧ y1 = -y2)) :
  ∃ xs ys a k, add (affp x1 y1) (affp x2 y2) = affp xs ys ∧ Line b x1 y1 x2 y2 xs ys a k := by
 simp only [On] at h1 h2
 simp only [add]
 rw [if_neg hne]
 refine ⟨_, _, slope x1 y1 x2 y2, y1 - slope x1 y1 x2 y2 * x1, rfl, ?_⟩
 by_cases h : x1 = x2 ∧ y1 = y2
 ·obtain ⟨rfl, rfl⟩ := h
  have hy : y1 + y1 ≠ 0 := fun e => hne ⟨rfl, by (refine eqf fun w hw => ?_; grobner)⟩
  exact tang_line b x1 y1 _ _ _ h1 (by unfold slope; rw [if_pos ⟨rfl, rfl⟩]; have := ivm hy; (refine eqf fun w hw => ?_; grobner)) hy rfl rfl
 ·have hx : x2 - x1 ≠ 0 := by
   intro e
   have e2 : x1 = x2 := by (refine eqf fun w hw => ?_; grobner)
   subst e2
   have : (y1 - y2) * (y1 + y2) = 0 := by (refine eqf fun w hw => ?_; grobner)
   rcases zd this with e | e
   ·exact h ⟨rfl, by (refine eqf fun w hw => ?_; grobner)⟩
   ·exact hne ⟨rfl, by (refine eqf fun w hw => ?_; grobner)⟩
  exact chord_line b x1 y1 x2 y2 _ _ _ h1 h2 (by unfold slope; rw [if_neg h]; have := ivm hx; (refine eqf fun w hw => ?_; grobner)) hx rfl rfl
theorem Line.on {b x1 y1 x2 y2 xs ys a k : Fin p} (h : Line b x1 y1 x2 y2 xs ys a k) : On b (affp xs ys) := by
 have := h.e1; have := h.e2; have := h.e3; have := h.s
 simp only [On]
 (refine eqf fun w hw => ?_; grobner)
theorem On.neg {b : Fin p} {P : Pt p} (h : On b P) : On b (neg P) := by
 cases P with
 | far => trivial
 | affp x y => simp only [On, EC.neg] at h ⊢; (refine eqf fun w hw => ?_; grobner)
theorem neg_neg (P : Pt p) : neg (neg P) = P := by
 cases P with
 | far => rfl
 | affp x y => simp only [neg]; congr 1; (refine eqf fun w hw => ?_; grobner)
theorem add_on {b : Fin p} {P Q : Pt p} (h1 : On b P) (h2 : On b Q) : On b (add P Q) := by
 cases P with
 | far => rw [far_add]; exact h2
 | affp x1 y1 =>
  cases Q with
  | far => exact h1
  | affp x2 y2 =>
   by_cases h : x1 = x2 ∧ y1 = -y2
   ·simp only [add]; rw [if_pos h]; trivial
   ·obtain ⟨xs, ys, a, k, e, hL⟩ := add_spec h1 h2 h
    rw [e]
    exact hL.on
theorem add_neg (P : Pt p) : add P (neg P) = far := by
 cases P with
 | far => rfl
 | affp x y =>
  show add (affp x y) (affp x (-y)) = far
  exact add_opp ⟨rfl, by (refine eqf fun w hw => ?_; grobner)⟩
theorem add_eq_far {P Q : Pt p} (h : add P Q = far) : P = neg Q := by
 cases P with
 | far => rw [far_add] at h; subst h; rfl
 | affp x1 y1 =>
  cases Q with
  | far => cases h
  | affp x2 y2 =>
   simp only [add] at h
   split at h
   ·rename_i h2
    obtain ⟨rfl, rfl⟩ := h2
    rfl
   ·cases h
/-- a line through two points of the curve that are not each other's negative is their sum's -/
theorem line_add {b x1 y1 x2 y2 xs ys a k : Fin p} (h1 : On b (affp x1 y1)) (h2 : On b (affp x2 y2)) (hne : ¬(x1 = x2 ∧ y1 = -y2)) (hL : Line b x1 y1 x2 y2 xs ys a k) : add (affp x1 y1) (affp x2 y2) = affp xs ys := by
 obtain ⟨xs', ys', a', k', e, hL'⟩ := add_spec h1 h2 hne
 rw [e]
 have a1 := hL.e1; have a2 := hL.e2; have a3 := hL.p; have a4 := hL.q; have a5 := hL.s
 have b1 := hL'.e1; have b2 := hL'.e2; have b3 := hL'.p; have b4 := hL'.q; have b5 := hL'.s
 have ha : a' = a := by
  by_cases hx : x1 = x2
  ·subst hx
   have hy : y1 = y2 := by (refine eqf fun w hw => ?_; grobner)
   have hy2 : y1 + y1 ≠ 0 := fun e => hne ⟨rfl, by (refine eqf fun w hw => ?_; grobner)⟩
   have c1 : a*(y1+y1) = 3*(x1*x1-1) := by (refine eqf fun w hw => ?_; grobner)
   have c2 : a'*(y1+y1) = 3*(x1*x1-1) := by (refine eqf fun w hw => ?_; grobner)
   obtain ⟨v, hv⟩ := inv _ hy2
   (refine eqf fun w hw => ?_; grobner)
  ·obtain ⟨v, hv⟩ := neq hx
   (refine eqf fun w hw => ?_; grobner)
 subst ha
 have hk : k' = k := by (refine eqf fun w hw => ?_; grobner)
 subst hk
 congr 1 <;> (refine eqf fun w hw => ?_; grobner)
theorem add_comm {b : Fin p} {P Q : Pt p} (h1 : On b P) (h2 : On b Q) : add P Q = add Q P := by
 cases P with
 | far => rw [far_add, add_far]
 | affp x1 y1 =>
  cases Q with
  | far => rw [far_add, add_far]
  | affp x2 y2 =>
   by_cases h : x1 = x2 ∧ y1 = -y2
   ·have h' : x2 = x1 ∧ y2 = -y1 := ⟨h.1.symm, by have := h.2; (refine eqf fun w hw => ?_; grobner)⟩
    simp only [add]
    rw [if_pos h, if_pos h']
   ·have h' : ¬(x2 = x1 ∧ y2 = -y1) := fun e => h ⟨e.1.symm, by have := e.2; (refine eqf fun w hw => ?_; grobner)⟩
    obtain ⟨xs, ys, a, k, e, hL⟩ := add_spec h1 h2 h
    rw [e]
    refine (line_add h2 h1 h' (a := a) (k := k) ⟨?_, ?_, ?_, hL.q, hL.p, hL.s⟩).symm
    ·have := hL.e1; (refine eqf fun w hw => ?_; grobner)
    ·have := hL.e2; (refine eqf fun w hw => ?_; grobner)
    ·have := hL.e3; (refine eqf fun w hw => ?_; grobner)
theorem neg_add {b : Fin p} {P Q : Pt p} (h1 : On b P) (h2 : On b Q) : neg (add P Q) = add (neg P) (neg Q) := by
 cases P with
 | far => rw [far_add]; show neg Q = add far (neg Q); rw [far_add]
 | affp x1 y1 =>
  cases Q with
  | far => rfl
  | affp x2 y2 =>
   by_cases h : x1 = x2 ∧ y1 = -y2
   ·have h' : x1 = x2 ∧ -y1 = - -y2 := ⟨h.1, by have := h.2; (refine eqf fun w hw => ?_; grobner)⟩
    simp only [add, neg]
    rw [if_pos h, if_pos h']
   ·have h' : ¬(x1 = x2 ∧ -y1 = - -y2) := fun e => h ⟨e.1, by have := e.2; (refine eqf fun w hw => ?_; grobner)⟩
    obtain ⟨xs, ys, a, k, e, hL⟩ := add_spec h1 h2 h
    rw [e]
    refine (line_add h1.neg h2.neg h' (xs := xs) (ys := -ys) (a := -a) (k := -k) ⟨?_, ?_, ?_, ?_, ?_, ?_⟩).symm
    ·have := hL.e1; (refine eqf fun w hw => ?_; grobner)
    ·have := hL.e2; (refine eqf fun w hw => ?_; grobner)
    ·have := hL.e3; (refine eqf fun w hw => ?_; grobner)
    ·have := hL.p; (refine eqf fun w hw => ?_; grobner)
    ·have := hL.q; (refine eqf fun w hw => ?_; grobner)
    ·have := hL.s; (refine eqf fun w hw => ?_; grobner)
/-- (P + Q) - Q = P, on a curve without a double point -/
theorem cancel {b : Fin p} (hb : b*b ≠ 4) (h20 : (2 : Fin p) ≠ 0) (h30 : (3 : Fin p) ≠ 0) {P Q : Pt p} (h1 : On b P) (h2 : On b Q) : add (add P Q) (neg Q) = P := by
 cases P with
 | far => rw [far_add]; exact add_neg Q
 | affp x1 y1 =>
  cases Q with
  | far => rfl
  | affp x2 y2 =>
   by_cases h : x1 = x2 ∧ y1 = -y2
   ·obtain ⟨rfl, rfl⟩ := h
    rw [add_opp ⟨rfl, rfl⟩, far_add]
    rfl
   ·obtain ⟨xs, ys, a, k, e, hL⟩ := add_spec h1 h2 h
    rw [e]
    have hS := hL.on
    have a1 := hL.e1; have a2 := hL.e2; have a3 := hL.e3; have a4 := hL.q; have a5 := hL.s; have a6 := hL.p
    have hne : ¬(xs = x2 ∧ ys = - -y2) := by
     rintro ⟨rfl, hy⟩
     have hy2 : y2 = 0 := by (refine eqf fun w hw => ?_; grobner)
     have c1 : 3*(xs*xs-1) = 2*a*y2 := by (refine eqf fun w hw => ?_; grobner)
     have c2 : y2*y2 = xs*xs*xs - 3*xs + b := h2
     rw [hy2] at c1 c2
     have c3 : xs*xs*xs - 3*xs + b = 0 := by (refine eqf fun w hw => ?_; grobner)
     have c4 : 3*(xs*xs-1) = 0 := by (refine eqf fun w hw => ?_; grobner)
     have c5 : xs*xs = 1 := by (refine eqf fun w hw => ?_; grobner)
     have c6 : b = 2*xs := by (refine eqf fun w hw => ?_; grobner)
     exact hb (by (refine eqf fun w hw => ?_; grobner))
    refine line_add hS h2.neg hne (a := -a) (k := -k) ⟨?_, ?_, ?_, ?_, ?_, ?_⟩ <;> (refine eqf fun w hw => ?_; grobner)
section
variable {b x1 y1 x2 y2 x3 y3 xs ys xt yt xu yu xv yv a k l m c n d o : Fin p}
/-- the function A vanishes at P, Q, R, -T -/
theorem A_P (h1 : Line b x1 y1 x2 y2 xs ys a k) (h2 : Line b xs ys x3 y3 xt yt l m) :
  x1*x1 + (a*l+xs)*x1 - (a+l)*y1 + (-3 + a*m + l*k + (a*l+xs)*xs) = 0 := by
 have := h1.e1; have := h1.e2; have := h1.p; have := h1.s; have := h2.p
 (refine eqf fun w hw => ?_; grobner)
theorem A_Q (h1 : Line b x1 y1 x2 y2 xs ys a k) (h2 : Line b xs ys x3 y3 xt yt l m) :
  x2*x2 + (a*l+xs)*x2 - (a+l)*y2 + (-3 + a*m + l*k + (a*l+xs)*xs) = 0 := by
 have := h1.e1; have := h1.e2; have := h1.q; have := h1.s; have := h2.p
 (refine eqf fun w hw => ?_; grobner)
theorem A_R (h1 : Line b x1 y1 x2 y2 xs ys a k) (h2 : Line b xs ys x3 y3 xt yt l m) :
  x3*x3 + (a*l+xs)*x3 - (a+l)*y3 + (-3 + a*m + l*k + (a*l+xs)*xs) = 0 := by
 have := h2.e1; have := h2.e2; have := h1.s; have := h2.p; have := h2.q; have := h1.e1; have := h1.e2
 (refine eqf fun w hw => ?_; grobner)
theorem A_T (h1 : Line b x1 y1 x2 y2 xs ys a k) (h2 : Line b xs ys x3 y3 xt yt l m) :
  xt*xt + (a*l+xs)*xt + (a+l)*yt + (-3 + a*m + l*k + (a*l+xs)*xs) = 0 := by
 have := h2.e1; have := h2.e2; have := h1.s; have := h2.p; have := h2.s; have := h1.e1; have := h1.e2
 (refine eqf fun w hw => ?_; grobner)
theorem A_sum (h1 : Line b x1 y1 x2 y2 xs ys a k) (h2 : Line b xs ys x3 y3 xt yt l m) :
  xt = (a+l)*(a+l) - 2*(a*l+xs) - x1 - x2 - x3 := by
 have := h1.e1; have := h2.e1
 (refine eqf fun w hw => ?_; grobner)
/-- both functions are the same: so are their last zeros -/
theorem same_last {al be ga : Fin p} (A1 : xt*xt + al*xt + be*yt + ga = 0) (B1 : xv*xv + al*xv + be*yv + ga = 0) (s1 : xt = be*be - 2*al - x1 - x2 - x3) (s2 : xv = be*be - 2*al - x1 - x2 - x3) (hbe : be ≠ 0) : xt = xv ∧ yt = yv := by
 have e : xt = xv := by (refine eqf fun w hw => ?_; grobner)
 subst e
 exact ⟨rfl, by (refine eqf fun w hw => ?_; grobner)⟩
end
/-- on one line: three points of it with different x are the line's own -/
theorem coll {b x1 y1 x2 y2 xs ys x3 y3 a k : Fin p} (hL : Line b x1 y1 x2 y2 xs ys a k) (h3 : y3*y3 = x3*x3*x3 - 3*x3 + b) (h : y3 = a*x3 + k) (n1 : x3 ≠ x1) (n2 : x3 ≠ x2) : x3 = xs ∧ y3 = -ys := by
 have := hL.e1; have := hL.e2; have := hL.e3; have := hL.s
 have e : (x3 - x1)*((x3 - x2)*(x3 - xs)) = 0 := by (refine eqf fun w hw => ?_; grobner)
 obtain ⟨v1, w1⟩ := neq n1
 obtain ⟨v2, w2⟩ := neq n2
 have e2 : x3 = xs := by (refine eqf fun w hw => ?_; grobner)
 subst e2
 exact ⟨rfl, by (refine eqf fun w hw => ?_; grobner)⟩
/-- associativity, the x all different -/
theorem assoc_diff {b x1 y1 x2 y2 x3 y3 xs ys xt yt xu yu xv yv a k l m c n d o : Fin p}
  (o3 : On b (affp x3 y3)) (hS : Line b x1 y1 x2 y2 xs ys a k) (hT : Line b xs ys x3 y3 xt yt l m) (hU : Line b x2 y2 x3 y3 xu yu c n) (hV : Line b x1 y1 xu yu xv yv d o)
  (n12 : x1 ≠ x2) (n13 : x1 ≠ x3) (n23 : x2 ≠ x3) (hne : ¬(xs = x3 ∧ ys = -y3)) : xt = xv ∧ yt = yv := by
 have a1 := A_P hS hT; have a2 := A_Q hS hT; have a3 := A_R hS hT; have a4 := A_T hS hT; have a5 := A_sum hS hT
 have hV' : Line b xu yu x1 y1 xv yv d o := ⟨by have := hV.e1; (refine eqf fun w hw => ?_; grobner), by have := hV.e2; (refine eqf fun w hw => ?_; grobner), by have := hV.e3; (refine eqf fun w hw => ?_; grobner), hV.q, hV.p, hV.s⟩
 have b1 := A_R hU hV'; have b2 := A_P hU hV'; have b3 := A_Q hU hV'; have b4 := A_T hU hV'; have b5 := A_sum hU hV'
 have p1 := hS.p; have p2 := hS.q
 generalize hal : a*l+xs = al at *
 generalize hbe : a+l = be at *
 generalize hga : -3 + a*m + l*k + al*xs = ga at *
 generalize hal2 : c*d+xu = al2 at *
 generalize hbe2 : c+d = be2 at *
 generalize hga2 : -3 + c*o + d*n + al2*xu = ga2 at *
 clear hal hbe hga hal2 hbe2 hga2
 have e1 : (al - al2)*x1 - (be - be2)*y1 + (ga - ga2) = 0 := by (refine eqf fun w hw => ?_; grobner)
 have e2 : (al - al2)*x2 - (be - be2)*y2 + (ga - ga2) = 0 := by (refine eqf fun w hw => ?_; grobner)
 have e3 : (al - al2)*x3 - (be - be2)*y3 + (ga - ga2) = 0 := by (refine eqf fun w hw => ?_; grobner)
 have hb : be = be2 := by
  by_cases hb : be = be2
  ·exact hb
  ·exfalso
   obtain ⟨v, hv⟩ := neq n12
   obtain ⟨v2, hv2⟩ := neq hb
   have q1 : (be - be2)*a = al - al2 := by (refine eqf fun w hw => ?_; grobner)
   have q2 : y3 = a*x3 + k := by (refine eqf fun w hw => ?_; grobner)
   have q3 := coll hS o3 q2 (fun e => n13 e.symm) (fun e => n23 e.symm)
   exact hne ⟨q3.1.symm, by have := q3.2; (refine eqf fun w hw => ?_; grobner)⟩
 subst hb
 obtain ⟨v, hv⟩ := neq n12
 have ha : al = al2 := by (refine eqf fun w hw => ?_; grobner)
 subst ha
 have hg : ga = ga2 := by (refine eqf fun w hw => ?_; grobner)
 subst hg
 have hbe : be ≠ 0 := by
  intro h0
  subst h0
  have q : (x1 - x2) * (x1 + x2 + al) = 0 := by (refine eqf fun w hw => ?_; grobner)
  have q' : (x1 - x3) * (x1 + x3 + al) = 0 := by (refine eqf fun w hw => ?_; grobner)
  rcases zd q with e | e
  ·exact n12 (by (refine eqf fun w hw => ?_; grobner))
  ·rcases zd q' with f | f
   ·exact n13 (by (refine eqf fun w hw => ?_; grobner))
   ·exact n23 (by (refine eqf fun w hw => ?_; grobner))
 exact same_last (x1 := x1) (x2 := x2) (x3 := x3) a4 b4 (by (refine eqf fun w hw => ?_; grobner)) (by (refine eqf fun w hw => ?_; grobner)) hbe
/-- associativity, P = Q -/
theorem assoc_twice {b x1 y1 x3 y3 xs ys xt yt xu yu xv yv a k l m c n d o : Fin p} (h20 : (2 : Fin p) ≠ 0)
  (o1 : On b (affp x1 y1)) (o3 : On b (affp x3 y3)) (hS : Line b x1 y1 x1 y1 xs ys a k) (hT : Line b xs ys x3 y3 xt yt l m) (hU : Line b x1 y1 x3 y3 xu yu c n) (hV : Line b x1 y1 xu yu xv yv d o)
  (n13 : x1 ≠ x3) (n1u : x1 ≠ xu) (hy : y1 + y1 ≠ 0) (hne : ¬(xs = x3 ∧ ys = -y3)) : xt = xv ∧ yt = yv := by
 have a1 := A_P hS hT; have a3 := A_R hS hT; have a4 := A_T hS hT; have a5 := A_sum hS hT
 have hV' : Line b xu yu x1 y1 xv yv d o := ⟨by have := hV.e1; (refine eqf fun w hw => ?_; grobner), by have := hV.e2; (refine eqf fun w hw => ?_; grobner), by have := hV.e3; (refine eqf fun w hw => ?_; grobner), hV.q, hV.p, hV.s⟩
 have b1 := A_R hU hV'; have b3 := A_Q hU hV'; have b4 := A_T hU hV'; have b5 := A_sum hU hV'
 have p1 := hS.p
 have da : 2*x1 + (a*l+xs) - (a+l)*a = 0 := by have := hS.e1; (refine eqf fun w hw => ?_; grobner)
 have ta : a*(y1+y1) = 3*(x1*x1-1) := by have := hS.e1; have := hS.e2; have := hS.p; (refine eqf fun w hw => ?_; grobner)
 have db : 2*x1 + (c*d+xu) - (c+d)*a = 0 := by
  have g1 : (y1+y1)*(a - c) = (x1-x3)*(x1-xu) := by have := hU.e1; have := hU.e2; have := hU.p; (refine eqf fun w hw => ?_; grobner)
  have g2 : y1+y1 = (c+d)*(x1-xu) := by have := hU.p; have := hU.s; have := hV.p; have := hV.q; (refine eqf fun w hw => ?_; grobner)
  have g3 : (x1-xu)*((c+d)*(a-c) - (x1-x3)) = 0 := by (refine eqf fun w hw => ?_; grobner)
  have g4 : (c+d)*(a-c) = x1-x3 := by
   rcases zd g3 with e | e
   ·exact absurd (by (refine eqf fun w hw => ?_; grobner)) n1u
   ·(refine eqf fun w hw => ?_; grobner)
  have := hU.e1
  (refine eqf fun w hw => ?_; grobner)
 generalize hal : a*l+xs = al at *
 generalize hbe : a+l = be at *
 generalize hga : -3 + a*m + l*k + al*xs = ga at *
 generalize hal2 : c*d+xu = al2 at *
 generalize hbe2 : c+d = be2 at *
 generalize hga2 : -3 + c*o + d*n + al2*xu = ga2 at *
 clear hal hbe hga hal2 hbe2 hga2
 have e1 : (al - al2)*x1 - (be - be2)*y1 + (ga - ga2) = 0 := by (refine eqf fun w hw => ?_; grobner)
 have e3 : (al - al2)*x3 - (be - be2)*y3 + (ga - ga2) = 0 := by (refine eqf fun w hw => ?_; grobner)
 have e4 : (al - al2) = (be - be2)*a := by (refine eqf fun w hw => ?_; grobner)
 have hb : be = be2 := by
  by_cases hb : be = be2
  ·exact hb
  ·exfalso
   obtain ⟨v2, hv2⟩ := neq hb
   have q2 : y3 = a*x3 + k := by (refine eqf fun w hw => ?_; grobner)
   have q3 := coll hS o3 q2 (fun e => n13 e.symm) (fun e => n13 e.symm)
   exact hne ⟨q3.1.symm, by have := q3.2; (refine eqf fun w hw => ?_; grobner)⟩
 subst hb
 have ha : al = al2 := by (refine eqf fun w hw => ?_; grobner)
 subst ha
 have hg : ga = ga2 := by (refine eqf fun w hw => ?_; grobner)
 subst hg
 have hbe : be ≠ 0 := by
  intro h0
  subst h0
  have q : (x1 - x3) * (x1 + x3 + al) = 0 := by (refine eqf fun w hw => ?_; grobner)
  rcases zd q with e | e
  ·exact n13 (by (refine eqf fun w hw => ?_; grobner))
  ·exact n13 (by (refine eqf fun w hw => ?_; grobner))
 exact same_last (x1 := x1) (x2 := x1) (x3 := x3) a4 b4 (by (refine eqf fun w hw => ?_; grobner)) (by (refine eqf fun w hw => ?_; grobner)) hbe
theorem not_opp {x1 y1 x2 y2 : Fin p} (h : add (affp x1 y1) (affp x2 y2) ≠ far) : ¬(x1 = x2 ∧ y1 = -y2) := fun e => h (add_opp e)
/-- the group's law -/
theorem assoc {b : Fin p} (hb : b*b ≠ 4) (h20 : (2 : Fin p) ≠ 0) (h30 : (3 : Fin p) ≠ 0) {P Q R : Pt p} (h1 : On b P) (h2 : On b Q) (h3 : On b R) : add (add P Q) R = add P (add Q R) := by
 have can := fun {P Q : Pt p} (h1 : On b P) (h2 : On b Q) => cancel hb h20 h30 h1 h2
 -- far ones
 by_cases f1 : P = far
 ·subst f1; rw [far_add, far_add]
 by_cases f2 : Q = far
 ·subst f2; rw [far_add, add_far]
 by_cases f3 : R = far
 ·subst f3; rw [add_far, add_far]
 -- P + Q = far
 by_cases g1 : add P Q = far
 ·rw [g1, far_add]
  have e := add_eq_far g1
  subst e
  rw [add_comm h2.neg (add_on h2 h3), add_comm h2 h3, can h3 h2]
 by_cases g2 : add Q R = far
 ·rw [g2, add_far]
  have e : R = neg Q := by rw [add_comm h2 h3] at g2; exact add_eq_far g2
  subst e
  exact can h1 h2
 -- P = R, P = -R
 by_cases g3 : P = R
 ·subst g3
  rw [add_comm (add_on h1 h2) h1, add_comm h2 h1]
 by_cases g4 : R = neg P
 ·subst g4
  rw [add_comm h1 h2, can h2 h1, add_comm h1 (add_on h2 h1.neg)]
  have := can h2 h1.neg
  rw [neg_neg] at this
  exact this.symm
 -- S + R = far, P + U = far
 by_cases g5 : add (add P Q) R = far
 ·have e := add_eq_far g5
  have e2 : R = add (neg P) (neg Q) := by rw [← neg_add h1 h2, e, neg_neg]
  rw [g5, e2]
  have e3 : add Q (add (neg P) (neg Q)) = neg P := by
   rw [add_comm h2 (add_on h1.neg h2.neg)]
   have := can h1.neg h2.neg
   rw [neg_neg] at this
   exact this
  rw [e3, add_neg]
 by_cases g6 : add P (add Q R) = far
 ·have e := add_eq_far g6
  have e2 : P = add (neg Q) (neg R) := by rw [e, neg_add h2 h3]
  rw [g6, e2]
  have e3 : add (add (neg Q) (neg R)) Q = neg R := by
   rw [add_comm h2.neg h3.neg]
   have := can h3.neg h2.neg
   rw [neg_neg] at this
   exact this
  rw [e3, add_comm h3.neg h3, add_neg]
 cases P with
 | far => exact absurd rfl f1
 | affp x1 y1 =>
 cases Q with
 | far => exact absurd rfl f2
 | affp x2 y2 =>
 cases R with
 | far => exact absurd rfl f3
 | affp x3 y3 =>
 obtain ⟨xs, ys, a, k, eS, hS⟩ := add_spec h1 h2 (not_opp g1)
 obtain ⟨xu, yu, c, n, eU, hU⟩ := add_spec h2 h3 (not_opp g2)
 rw [eS] at g5 ⊢
 rw [eU] at g6 ⊢
 obtain ⟨xt, yt, l, m, eT, hT⟩ := add_spec hS.on h3 (not_opp g5)
 obtain ⟨xv, yv, d, o, eV, hV⟩ := add_spec h1 hU.on (not_opp g6)
 rw [eT, eV]
 have hy : ∀ {x y x' y' : Fin p}, On b (affp x y) → On b (affp x' y') → x = x' → y = y' ∨ y = -y' := by
  intro x y x' y' h h' e
  subst e
  simp only [On] at h h'
  have : (y - y')*(y + y') = 0 := by (refine eqf fun w hw => ?_; grobner)
  rcases zd this with e | e
  ·exact .inl (by (refine eqf fun w hw => ?_; grobner))
  ·exact .inr (by (refine eqf fun w hw => ?_; grobner))
 have n13 : x1 ≠ x3 := by
  intro e
  subst e
  rcases hy h1 h3 rfl with e | e
  ·exact g3 (by rw [e])
  ·exact g4 (by simp only [neg]; congr 1; (refine eqf fun w hw => ?_; grobner))
 have fin : xt = xv ∧ yt = yv := by
  by_cases n12 : x1 = x2
  ·-- P = Q
   subst n12
   have e : y1 = y2 := by
    rcases hy h1 h2 rfl with e | e
    ·exact e
    ·exact absurd ⟨rfl, e⟩ (not_opp g1)
   subst e
   have hyy : y1 + y1 ≠ 0 := fun e => not_opp g1 ⟨rfl, by (refine eqf fun w hw => ?_; grobner)⟩
   have n1u : x1 ≠ xu := by
    intro e
    subst e
    rcases hy h1 hU.on rfl with e | e
    ·-- Q + R = Q
     subst e
     have := can h3 h1
     rw [add_comm h3 h1, eU, add_neg] at this
     exact f3 this.symm
    ·exact not_opp g6 ⟨rfl, e⟩
   exact assoc_twice h20 h1 h3 hS hT hU hV n13 n1u hyy (not_opp g5)
  ·by_cases n23 : x2 = x3
   ·-- Q = R
    subst n23
    have e : y2 = y3 := by
     rcases hy h2 h3 rfl with e | e
     ·exact e
     ·exact absurd ⟨rfl, e⟩ (not_opp g2)
    subst e
    have hyy : y2 + y2 ≠ 0 := fun e => not_opp g2 ⟨rfl, by (refine eqf fun w hw => ?_; grobner)⟩
    have nus : x2 ≠ xs := by
     intro e
     subst e
     rcases hy h2 hS.on rfl with e | e
     ·subst e
      have := can h1 h2
      rw [eS, add_neg] at this
      exact f1 this.symm
     ·exact not_opp g5 ⟨rfl, by (refine eqf fun w hw => ?_; grobner)⟩
    have sw : ∀ {g q g' q' r s u v : Fin p}, Line b g q g' q' r s u v → Line b g' q' g q r s u v := fun h => ⟨by have := h.e1; (refine eqf fun w hw => ?_; grobner), by have := h.e2; (refine eqf fun w hw => ?_; grobner), by have := h.e3; (refine eqf fun w hw => ?_; grobner), h.q, h.p, h.s⟩
    have := assoc_twice h20 h2 h1 hU (sw hV) (sw hS) (sw hT) (fun e => n12 e.symm) nus hyy (fun e => not_opp g6 ⟨e.1.symm, by have := e.2; (refine eqf fun w hw => ?_; grobner)⟩)
    exact ⟨this.1.symm, this.2.symm⟩
   ·exact assoc_diff h3 hS hT hU hV n12 n13 n23 (not_opp g5)
 rw [fin.1, fin.2]
end EC
end Go.Proofs.Ytkfjhndofbmhoaa
