/- What the proof of PointBytes is made of, part 0. -/
import Derived.Test.YtkfjhndofbmhoaaProg
import Derived.WalkKit
import Derived.WalkLawsBesides
import Derived.DeepKeys
import Derived.Shelf.Spec.BitsCarry
namespace Go.Proofs.Ytkfjhndofbmhoaa
open Go.RowKit
set_option linter.unusedVariables false
set_option linter.unusedSimpArgs false
theorem ret_int {k : IntKind} {a b : Int} (h : a = b) : Ending.returned (.int k a) = .returned (.int k b) := by rw [h]
theorem ret_bool {a b : Bool} (h : a = b) : Ending.returned (.bool a) = .returned (.bool b) := by rw [h]
def N64 : Nat := 18446744073709551616
def N256 : Nat := 115792089237316195423570985008687907853269984665640564039457584007913129639936
def wd0 (a : Nat) : Nat := a % 18446744073709551616
def wd1 (a : Nat) : Nat := a / 18446744073709551616 % 18446744073709551616
def wd2 (a : Nat) : Nat := a / 340282366920938463463374607431768211456 % 18446744073709551616
def wd3 (a : Nat) : Nat := a / 6277101735386680763835789423207666416102355444464034512896 % 18446744073709551616
def val4 (x0 x1 x2 x3 : Nat) : Nat := x0 + 18446744073709551616 * x1 + 340282366920938463463374607431768211456 * x2 + 6277101735386680763835789423207666416102355444464034512896 * x3
theorem wd0_lt (a : Nat) : wd0 a < N64 := by unfold wd0 N64; omega
theorem wd1_lt (a : Nat) : wd1 a < N64 := by unfold wd1 N64; omega
theorem wd2_lt (a : Nat) : wd2 a < N64 := by unfold wd2 N64; omega
theorem wd3_lt (a : Nat) : wd3 a < N64 := by unfold wd3 N64; omega
theorem N256_pos : 0 < N256 := by unfold N256; omega
theorem val4_lt {x0 x1 x2 x3 : Nat} (h0 : x0 < N64) (h1 : x1 < N64) (h2 : x2 < N64) (h3 : x3 < N64) : val4 x0 x1 x2 x3 < N256 := by
 unfold val4 N256; unfold N64 at *; omega
theorem val_wd {a : Nat} (h : a < N256) : val4 (wd0 a) (wd1 a) (wd2 a) (wd3 a) = a := by
 unfold N256 at h
 unfold val4 wd0 wd1 wd2 wd3; omega
theorem wd0_val {x0 x1 x2 x3 : Nat} (h0 : x0 < N64) : wd0 (val4 x0 x1 x2 x3) = x0 := by
 unfold N64 at *; unfold val4 wd0; omega
theorem wd1_val {x0 x1 x2 x3 : Nat} (h0 : x0 < N64) (h1 : x1 < N64) : wd1 (val4 x0 x1 x2 x3) = x1 := by
 unfold N64 at *; unfold val4 wd1; omega
theorem wd2_val {x0 x1 x2 x3 : Nat} (h0 : x0 < N64) (h1 : x1 < N64) (h2 : x2 < N64) : wd2 (val4 x0 x1 x2 x3) = x2 := by
 unfold N64 at *; unfold val4 wd2; omega
theorem wd3_val {x0 x1 x2 x3 : Nat} (h0 : x0 < N64) (h1 : x1 < N64) (h2 : x2 < N64) (h3 : x3 < N64) : wd3 (val4 x0 x1 x2 x3) = x3 := by
 unfold N64 at *; unfold val4 wd3; omega
/-- The number as a value. -/
def numV (a : Nat) : Value := .agg #[.int .u64 (wd0 a : Nat), .int .u64 (wd1 a : Nat), .int .u64 (wd2 a : Nat), .int .u64 (wd3 a : Nat)]
theorem numV_def (a : Nat) : numV a = .agg #[.int .u64 (wd0 a : Nat), .int .u64 (wd1 a : Nat), .int .u64 (wd2 a : Nat), .int .u64 (wd3 a : Nat)] := rfl
theorem numV_of {x0 x1 x2 x3 : Nat} (h0 : x0 < N64) (h1 : x1 < N64) (h2 : x2 < N64) (h3 : x3 < N64) : (.agg #[.int .u64 (x0 : Nat), .int .u64 (x1 : Nat), .int .u64 (x2 : Nat), .int .u64 (x3 : Nat)] : Value) = numV (val4 x0 x1 x2 x3) := by
 rw [numV_def, wd0_val h0, wd1_val h0 h1, wd2_val h0 h1 h2, wd3_val h0 h1 h2 h3]
/-- A value is a number. -/
def IsNum (v : Value) (a : Nat) : Prop := v = numV a ∧ a < N256
theorem IsNum.mk {a : Nat} (h : a < N256) : IsNum (numV a) a := ⟨rfl, h⟩
theorem words_eq {a b : Nat} (ha : a < N256) (hb : b < N256) (h0 : wd0 a = wd0 b) (h1 : wd1 a = wd1 b) (h2 : wd2 a = wd2 b) (h3 : wd3 a = wd3 b) : a = b := by
 rw [← val_wd ha, ← val_wd hb, h0, h1, h2, h3]
/-- Wide numbers: eight words. -/
def wd4 (a : Nat) : Nat := a / 115792089237316195423570985008687907853269984665640564039457584007913129639936 % 18446744073709551616
def wd5 (a : Nat) : Nat := a / 2135987035920910082395021706169552114602704522356652769947041607822219725780640550022962086936576 % 18446744073709551616
def wd6 (a : Nat) : Nat := a / 39402006196394479212279040100143613805079739270465446667948293404245721771497210611414266254884915640806627990306816 % 18446744073709551616
def wd7 (a : Nat) : Nat := a / 726838724295606890549323807888004534353641360687318060281490199180639288113397923326191050713763565560762521606266177933534601628614656 % 18446744073709551616
def val8 (x0 x1 x2 x3 x4 x5 x6 x7 : Nat) : Nat := x0 + 18446744073709551616 * x1 + 340282366920938463463374607431768211456 * x2 + 6277101735386680763835789423207666416102355444464034512896 * x3 + 115792089237316195423570985008687907853269984665640564039457584007913129639936 * x4 + 2135987035920910082395021706169552114602704522356652769947041607822219725780640550022962086936576 * x5 + 39402006196394479212279040100143613805079739270465446667948293404245721771497210611414266254884915640806627990306816 * x6 + 726838724295606890549323807888004534353641360687318060281490199180639288113397923326191050713763565560762521606266177933534601628614656 * x7
def N512 : Nat := 13407807929942597099574024998205846127479365820592393377723561443721764030073546976801874298166903427690031858186486050853753882811946569946433649006084096
theorem wd0_val8 {x0 x1 x2 x3 x4 x5 x6 x7 : Nat} (h0 : x0 < N64) : wd0 (val8 x0 x1 x2 x3 x4 x5 x6 x7) = x0 := by
 unfold N64 at *; unfold val8 wd0; omega
theorem wd1_val8 {x0 x1 x2 x3 x4 x5 x6 x7 : Nat} (h0 : x0 < N64) (h1 : x1 < N64) : wd1 (val8 x0 x1 x2 x3 x4 x5 x6 x7) = x1 := by
 unfold N64 at *; unfold val8 wd1; omega
theorem wd2_val8 {x0 x1 x2 x3 x4 x5 x6 x7 : Nat} (h0 : x0 < N64) (h1 : x1 < N64) (h2 : x2 < N64) : wd2 (val8 x0 x1 x2 x3 x4 x5 x6 x7) = x2 := by
 unfold N64 at *; unfold val8 wd2; omega
theorem wd3_val8 {x0 x1 x2 x3 x4 x5 x6 x7 : Nat} (h0 : x0 < N64) (h1 : x1 < N64) (h2 : x2 < N64) (h3 : x3 < N64) : wd3 (val8 x0 x1 x2 x3 x4 x5 x6 x7) = x3 := by
 unfold N64 at *; unfold val8 wd3; omega
theorem wd4_val8 {x0 x1 x2 x3 x4 x5 x6 x7 : Nat} (h0 : x0 < N64) (h1 : x1 < N64) (h2 : x2 < N64) (h3 : x3 < N64) (h4 : x4 < N64) : wd4 (val8 x0 x1 x2 x3 x4 x5 x6 x7) = x4 := by
 unfold N64 at *; unfold val8 wd4; omega
theorem wd5_val8 {x0 x1 x2 x3 x4 x5 x6 x7 : Nat} (h0 : x0 < N64) (h1 : x1 < N64) (h2 : x2 < N64) (h3 : x3 < N64) (h4 : x4 < N64) (h5 : x5 < N64) : wd5 (val8 x0 x1 x2 x3 x4 x5 x6 x7) = x5 := by
 unfold N64 at *; unfold val8 wd5; omega
theorem wd6_val8 {x0 x1 x2 x3 x4 x5 x6 x7 : Nat} (h0 : x0 < N64) (h1 : x1 < N64) (h2 : x2 < N64) (h3 : x3 < N64) (h4 : x4 < N64) (h5 : x5 < N64) (h6 : x6 < N64) : wd6 (val8 x0 x1 x2 x3 x4 x5 x6 x7) = x6 := by
 unfold N64 at *; unfold val8 wd6; omega
theorem wd7_val8 {x0 x1 x2 x3 x4 x5 x6 x7 : Nat} (h0 : x0 < N64) (h1 : x1 < N64) (h2 : x2 < N64) (h3 : x3 < N64) (h4 : x4 < N64) (h5 : x5 < N64) (h6 : x6 < N64) (h7 : x7 < N64) : wd7 (val8 x0 x1 x2 x3 x4 x5 x6 x7) = x7 := by
 unfold N64 at *; unfold val8 wd7; omega
/-- The wide number as a value. -/
def wideV (a : Nat) : Value := .agg #[.int .u64 (wd0 a : Nat), .int .u64 (wd1 a : Nat), .int .u64 (wd2 a : Nat), .int .u64 (wd3 a : Nat), .int .u64 (wd4 a : Nat), .int .u64 (wd5 a : Nat), .int .u64 (wd6 a : Nat), .int .u64 (wd7 a : Nat)]
theorem wideV_def (a : Nat) : wideV a = .agg #[.int .u64 (wd0 a : Nat), .int .u64 (wd1 a : Nat), .int .u64 (wd2 a : Nat), .int .u64 (wd3 a : Nat), .int .u64 (wd4 a : Nat), .int .u64 (wd5 a : Nat), .int .u64 (wd6 a : Nat), .int .u64 (wd7 a : Nat)] := rfl
theorem wideV_of {x0 x1 x2 x3 x4 x5 x6 x7 : Nat} (h0 : x0 < N64) (h1 : x1 < N64) (h2 : x2 < N64) (h3 : x3 < N64) (h4 : x4 < N64) (h5 : x5 < N64) (h6 : x6 < N64) (h7 : x7 < N64) : (.agg #[.int .u64 (x0 : Nat), .int .u64 (x1 : Nat), .int .u64 (x2 : Nat), .int .u64 (x3 : Nat), .int .u64 (x4 : Nat), .int .u64 (x5 : Nat), .int .u64 (x6 : Nat), .int .u64 (x7 : Nat)] : Value) = wideV (val8 x0 x1 x2 x3 x4 x5 x6 x7) := by
 rw [wideV_def, wd0_val8 h0, wd1_val8 h0 h1, wd2_val8 h0 h1 h2, wd3_val8 h0 h1 h2 h3, wd4_val8 h0 h1 h2 h3 h4, wd5_val8 h0 h1 h2 h3 h4 h5, wd6_val8 h0 h1 h2 h3 h4 h5 h6, wd7_val8 h0 h1 h2 h3 h4 h5 h6 h7]
theorem mul_lt512 {a b : Nat} (ha : a < N256) (hb : b < N256) : a * b < N512 := by
 have h : a * b < N256 * N256 := Nat.mul_lt_mul'' ha hb
 have e : N256 * N256 = N512 := by unfold N256 N512; decide
 omega
theorem items_cons {P : Program} {d : Nat} {e : TypeId} {c : Nat} {xs ys : Array Value} {i : Nat} {is : List Nat} {a b : Value} {r s : Bool} {w : World}
  (ha : (part e xs (i * c)).run P w = .ok a w) (hb : (part e ys (i * c)).run P w = .ok b w) (he : (Op.equalIn d e a b).run P w = .ok r w) (hr : (Op.eqItems d e c xs ys is).run P w = .ok s w) : (Op.eqItems d e c xs ys (i :: is)).run P w = .ok (r && s) w := by
 rw [Op.eqItems]
 simp only [Sem.run_bind, ha, hb, he, Result.andThen_ok]
 cases r
 ·simp
 ·simpa using hr
theorem items_nil {P : Program} {d : Nat} {e : TypeId} {c : Nat} {xs ys : Array Value} {w : World} : (Op.eqItems d e c xs ys []).run P w = .ok true w := by simp [Op.eqItems]
theorem beq_cast (a b : Nat) : ((a : Int) == (b : Int)) = decide (a = b) := by
 rw [Bool.eq_iff_iff]; simp; omega
theorem eqA_num (d : Nat) (x0 x1 x2 x3 y0 y1 y2 y3 : Int) (w : World) : (Op.equalIn (d + 2) 24 (.agg #[.int .u64 x0, .int .u64 x1, .int .u64 x2, .int .u64 x3]) (.agg #[.int .u64 y0, .int .u64 y1, .int .u64 y2, .int .u64 y3])).run Try.prog w = .ok (x0 == y0 && (x1 == y1 && (x2 == y2 && (x3 == y3 && true)))) w := by
 have hu : Try.prog.underlying 24 = some (.array 4 22) := by kernel_rfl
 obtain ⟨i, hi⟩ : ∃ i, Try.prog.info? 22 = some i := Option.isSome_iff_exists.1 (by kernel_rfl)
 rw [run_equalIn_array w (d + 1) _ _ hu hi]
 have hc : Try.prog.cellsOf 22 = 1 := by kernel_rfl
 have he : Try.prog.underlying 22 = some (.int .u64) := by kernel_rfl
 have hp : Try.prog.plainKey 22 = true := by kernel_rfl
 have pt : ∀ (xs : Array Value) (off : Nat) (v : Value), xs[off]? = some v → (part 22 xs off).run Try.prog w = .ok v w := fun xs off v h => run_part_plain w hp h
 have eq : ∀ (a b : Int), (Op.equalIn (d + 1) 22 (.int .u64 a) (.int .u64 b)).run Try.prog w = .ok (a == b) w := fun a b => run_equalIn_int w d _ _ _ a b he
 rw [hc, show List.range 4 = [0, 1, 2, 3] from rfl, items_cons (pt _ _ _ rfl) (pt _ _ _ rfl) (eq _ _) (items_cons (pt _ _ _ rfl) (pt _ _ _ rfl) (eq _ _) (items_cons (pt _ _ _ rfl) (pt _ _ _ rfl) (eq _ _) (items_cons (pt _ _ _ rfl) (pt _ _ _ rfl) (eq _ _) items_nil)))]
/-- '==' on numbers. -/
theorem eql_words (x0 x1 x2 x3 y0 y1 y2 y3 : Int) (w : World) : (binOp .eql 24 (.agg #[.int .u64 x0, .int .u64 x1, .int .u64 x2, .int .u64 x3]) (.agg #[.int .u64 y0, .int .u64 y1, .int .u64 y2, .int .u64 y3])).run Try.prog w = .ok (.bool (x0 == y0 && (x1 == y1 && (x2 == y2 && (x3 == y3 && true))))) w := by
 rw [run_eql_struct, show (10000 : Nat) = 9998 + 2 from rfl, eqA_num]
 rfl
theorem words_beq {a b : Nat} (ha : a < N256) (hb : b < N256) : (((wd0 a : Nat) : Int) == (wd0 b : Nat) && (((wd1 a : Nat) : Int) == (wd1 b : Nat) && (((wd2 a : Nat) : Int) == (wd2 b : Nat) && (((wd3 a : Nat) : Int) == (wd3 b : Nat) && true)))) = decide (a = b) := by
 simp only [beq_cast]
 rw [Bool.eq_iff_iff]
 simp only [Bool.and_eq_true, decide_eq_true_eq, and_true]
 exact ⟨fun ⟨h0, h1, h2, h3⟩ => words_eq ha hb h0 h1 h2 h3, fun h => by rw [h]; exact ⟨rfl, rfl, rfl, rfl⟩⟩
theorem eql_num {a b : Nat} (ha : a < N256) (hb : b < N256) (w : World) : (binOp .eql 24 (numV a) (numV b)).run Try.prog w = .ok (.bool (decide (a = b))) w := by
 rw [numV_def, numV_def, eql_words, words_beq ha hb]
theorem neq_num {a b : Nat} (ha : a < N256) (hb : b < N256) (w : World) : (binOp .neq 24 (numV a) (numV b)).run Try.prog w = .ok (.bool (!decide (a = b))) w := by
 have h := eql_num ha hb w
 rw [numV_def, numV_def, run_eql_struct] at h
 rw [numV_def, numV_def, run_neq_struct]
 cases hr : (Op.equalIn 10000 24 (.agg #[.int .u64 (wd0 a : Nat), .int .u64 (wd1 a : Nat), .int .u64 (wd2 a : Nat), .int .u64 (wd3 a : Nat)]) (.agg #[.int .u64 (wd0 b : Nat), .int .u64 (wd1 b : Nat), .int .u64 (wd2 b : Nat), .int .u64 (wd3 b : Nat)])).run Try.prog w with
 | ok r w1 => rw [hr] at h; simp only [Result.andThen_ok] at h ⊢; injection h with h1 h2; injection h1 with h1; rw [h1, h2]
 | halt x w1 => rw [hr] at h; simp [Result.andThen] at h
end Go.Proofs.Ytkfjhndofbmhoaa
namespace Go.Proofs.Ytkfjhndofbmhoaa
open Go.RowKit
set_option linter.unusedVariables false
set_option linter.unusedSimpArgs false
/-- Block g holds cells of type e, not frozen, and begins with xs. -/
def Rw (w : World) (e : TypeId) (g : Nat) (xs : List Value) : Prop := ∃ cur : Array Value, w.heap[g]? = some (.cells cur e (0, 0)) ∧ cur.toList.take xs.length = xs
theorem Rw.size {w : World} {e : TypeId} {g : Nat} {xs : List Value} (h : Rw w e g xs) : g < w.heap.size := by
 obtain ⟨cur, hc, _⟩ := h
 exact (Array.getElem?_eq_some_iff.1 hc).1
theorem Rw.cell {w : World} {e : TypeId} {g : Nat} {xs : List Value} (h : Rw w e g xs) {j : Nat} {v : Value} (hv : xs[j]? = some v) : w.cell? ⟨g, j, none⟩ = some v := by
 obtain ⟨cur, hc, ht⟩ := h
 have hj : j < xs.length := (List.getElem?_eq_some_iff.1 hv).1
 rw [← ht, List.getElem?_take_of_lt hj] at hv
 simp [World.cell?, hc]
 simpa using hv
theorem Rw.free {w : World} {e : TypeId} {g : Nat} {xs : List Value} (h : Rw w e g xs) (j : Nat) : w.frozen? ⟨g, j, none⟩ = false := by
 obtain ⟨cur, hc, ht⟩ := h
 simp [World.frozen?, hc]
theorem Rw.block {w w' : World} {e : TypeId} {g : Nat} {xs : List Value} (h : Rw w e g xs) (hb : w'.heap[g]? = w.heap[g]?) : Rw w' e g xs := by
 obtain ⟨cur, hc, ht⟩ := h
 exact ⟨cur, by rw [hb]; exact hc, ht⟩
theorem Rw.alloc {w : World} {e : TypeId} {g : Nat} {xs : List Value} (h : Rw w e g xs) (o : Obj) : Rw (w.alloc o) e g xs :=
 h.block (Below.heap_alloc _ _ _ h.size)
theorem Rw.drew {w : World} {e : TypeId} {g : Nat} {xs : List Value} (h : Rw w e g xs) : Rw w.drew e g xs := h
theorem Rw.drewN {w : World} {e : TypeId} {g : Nat} {xs : List Value} (h : Rw w e g xs) (n : Nat) : Rw (w.drewN n) e g xs := h
theorem Rw.below {w w' : World} {B : Nat} {e : TypeId} {g : Nat} {xs : List Value} (h : Rw w e g xs) (hb : Below B w w') (hg : g < B) : Rw w' e g xs := h.block (hb.block g hg)
theorem Rw.set_other {w : World} {e : TypeId} {g : Nat} {xs : List Value} (h : Rw w e g xs) {a : Addr} (ha : g ≠ a.block) (u : Value) : Rw (w.setCell a u) e g xs := h.block (Below.heap_setCell _ _ _ _ ha)
theorem Rw.set {w : World} {e : TypeId} {g : Nat} {xs : List Value} (h : Rw w e g xs) (j : Nat) (u : Value) : Rw (w.setCell ⟨g, j, none⟩ u) e g (xs.set j u) := by
 obtain ⟨cur, hc, ht⟩ := h
 refine ⟨cur.setIfInBounds j u, ?_, ?_⟩
 ·simp [World.setCell, Array.getElem?_modify, hc]
 ·rw [List.length_set, Array.toList_setIfInBounds, List.take_set, ht]
theorem Rw.of_owns {w : World} {base : Nat} {e : TypeId} {v : Value} {n : Nat} {xs : List Value} (h : w.ownsRow base e 1 v n xs) (hn : n ≠ 0) :
  ∃ g cap, v = .slice (some ⟨g, 0, none⟩) n cap ∧ base ≤ g ∧ n ≤ cap ∧ Rw w e g xs := by
 obtain ⟨hl, h | ⟨g, cap, cur, hv, hg, hh, hc, hm, hs, ht⟩⟩ := h
 ·exact absurd h.2 hn
 ·exact ⟨g, cap, hv, hg, hc, cur, hh, by rw [hl]; exact ht⟩
theorem Rw.new {w : World} {e : TypeId} {xs : Array Value} {n : Nat} (hn : n = w.heap.size) : Rw (w.alloc (.cells xs e)) e n xs.toList := by
 subst hn
 refine ⟨xs, ?_, by rw [Array.length_toList]; exact List.take_of_length_le (by simp)⟩
 show (w.heap.push _)[w.heap.size]? = _
 rw [Array.getElem?_push, if_pos rfl]
theorem Rw.four {w : World} {e : TypeId} {g : Nat} {x0 x1 x2 x3 : Value} (h : Rw w e g [x0, x1, x2, x3]) :
  w.cell? ⟨g, 0, none⟩ = some x0 ∧ w.cell? ⟨g, 1, none⟩ = some x1 ∧ w.cell? ⟨g, 2, none⟩ = some x2 ∧ w.cell? ⟨g, 3, none⟩ = some x3 := ⟨h.cell rfl, h.cell rfl, h.cell rfl, h.cell rfl⟩
/-- part j of a number: 16 bits -/
def pt (a j : Nat) : Nat := a / 65536 ^ j % 65536
theorem pt_lt (a j : Nat) : pt a j < 65536 := Nat.mod_lt _ (by omega)
/-- a function's first m values, as cells -/
def fnL (f : Nat → Nat) (m : Nat) : List Value := (List.range m).map fun j => .int .i64 (f j : Nat)
theorem fnL_length (f : Nat → Nat) (m : Nat) : (fnL f m).length = m := by simp [fnL]
theorem fnL_succ (f : Nat → Nat) (m : Nat) : fnL f (m + 1) = fnL f m ++ [.int .i64 (f m : Nat)] := by simp [fnL, List.range_succ]
theorem fnL_get (f : Nat → Nat) (m j : Nat) (h : j < m) : (fnL f m)[j]? = some (.int .i64 (f j : Nat)) := by simp [fnL, h]
theorem fnL_congr {f g : Nat → Nat} {m : Nat} (h : ∀ j, j < m → f j = g j) : fnL f m = fnL g m := by
 unfold fnL
 apply List.map_congr_left
 intro j hj
 rw [h j (List.mem_range.1 hj)]
theorem fnL_set (f : Nat → Nat) (m k v : Nat) : (fnL f m).set k (.int .i64 (v : Nat)) = fnL (fun j => if j = k then v else f j) m := by
 apply List.ext_getElem?
 intro j
 rw [List.getElem?_set]
 by_cases hj : j < m
 ·rw [fnL_get _ _ _ hj, fnL_length]
  by_cases hk : k = j
  ·subst hk; rw [fnL_get _ _ _ hj]; simp [hj]
  ·rw [if_neg hk, fnL_get _ _ _ hj, if_neg (fun e => hk e.symm)]
 ·have h1 : ∀ f : Nat → Nat, (fnL f m)[j]? = none := fun f => List.getElem?_eq_none (by rw [fnL_length]; omega)
  rw [h1, h1, fnL_length]
  split
  ·rw [if_neg (by omega)]
  ·rfl
/-- the first m parts, as cells -/
abbrev ptL (a m : Nat) : List Value := fnL (pt a) m
theorem ptL_succ (a m : Nat) : ptL a (m + 1) = ptL a m ++ [.int .i64 (pt a m : Nat)] := fnL_succ _ _
theorem ptL_get (a m j : Nat) (h : j < m) : (ptL a m)[j]? = some (.int .i64 (pt a j : Nat)) := fnL_get _ _ _ h
end Go.Proofs.Ytkfjhndofbmhoaa
