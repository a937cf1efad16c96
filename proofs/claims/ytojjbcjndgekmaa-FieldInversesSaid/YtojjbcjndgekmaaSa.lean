/- Bytes in memory, and the number of bytes. limb.Of by its contract. -/
import Derived.Test.YtojjbcjndgekmaaRa
import Derived.Test.YtojjbcjndgekmaaRb
import Derived.Lib.Hide
import Derived.Deep.QuietTactic
import Derived.BigQuiet
import Derived.BigRegion
namespace Go.Proofs.Ytojjbcjndgekmaa
open Go.RowKit
set_option linter.unusedVariables false
set_option linter.unusedSimpArgs false

/-- A slice's bytes lie in memory. -/
def BAt (w : World) (A : Option Addr) (bs : List Nat) : Prop := (bs = [] ∨ ∃ b o, A = some ⟨b, o, none⟩ ∧ b < w.heap.size ∧ ∀ i, i < bs.length → w.cell? ⟨b, o + i, none⟩ = some (.int .u8 (bs.getD i 0 : Nat))) ∧ ∀ i, bs.getD i 0 < 256
theorem BAt.lt {w : World} {A : Option Addr} {bs : List Nat} (h : BAt w A bs) (i : Nat) : bs.getD i 0 < 256 := h.2 i
theorem BAt.below {w w' : World} {A : Option Addr} {bs : List Nat} {B : Nat} (h : BAt w A bs) (hb : Below B w w') (hB : w.heap.size ≤ B) : BAt w' A bs := by
  refine ⟨?_, h.2⟩
  rcases h.1 with h | ⟨b, o, e, hs, hc⟩
  · exact .inl h
  · exact .inr ⟨b, o, e, Nat.lt_of_lt_of_le hs hb.size, fun i hi => (hb.cell (p := ⟨b, o + i, none⟩) (by exact Nat.lt_of_lt_of_le hs hB)).trans (hc i hi)⟩
/-- the number of bytes, the highest first -/
def beN (bs : List Nat) : Nat := bs.foldl (fun n x => n * 256 + x) 0
theorem foldl_be (bs : List Nat) : ∀ n, bs.foldl (fun n x => n * 256 + x) n = n * 256 ^ bs.length + beN bs := by
  induction bs with
  | nil => intro n; simp [beN]
  | cons x bs ih =>
    intro n
    have h1 := ih (n * 256 + x)
    have h2 := ih (0 * 256 + x)
    simp only [List.foldl_cons, List.length_cons, beN] at *
    rw [h1, h2, Nat.pow_succ, Nat.zero_mul, Nat.zero_add, Nat.add_mul, Nat.mul_assoc, Nat.mul_comm 256]
    omega
theorem beN_cons (x : Nat) (bs : List Nat) : beN (x :: bs) = x * 256 ^ bs.length + beN bs := by
  have h := foldl_be bs x
  simpa [beN] using h
theorem beN_lt (bs : List Nat) (h : ∀ i, bs.getD i 0 < 256) : beN bs < 256 ^ bs.length := by
  induction bs with
  | nil => simp [beN]
  | cons x bs ih =>
    have h0 : x < 256 := h 0
    have h1 := ih (fun i => h (i + 1))
    rw [beN_cons, List.length_cons, Nat.pow_succ]
    have : (x + 1) * 256 ^ bs.length ≤ 256 * 256 ^ bs.length := Nat.mul_le_mul_right _ h0
    rw [Nat.add_mul] at this
    omega
/-- the last i bytes -/
theorem drop_step (bs : List Nat) (i : Nat) (h : i < bs.length) : bs.drop (bs.length - 1 - i) = bs.getD (bs.length - 1 - i) 0 :: bs.drop (bs.length - i) := by
  have hl : bs.length - 1 - i < bs.length := by omega
  rw [List.drop_eq_getElem_cons hl, show bs.length - 1 - i + 1 = bs.length - i by omega]
  simp [List.getD, hl]
theorem beN_step (bs : List Nat) (i : Nat) (h : i < bs.length) : beN (bs.drop (bs.length - (i + 1))) = beN (bs.drop (bs.length - i)) + bs.getD (bs.length - 1 - i) 0 * 256 ^ i := by
  rw [show bs.length - (i + 1) = bs.length - 1 - i by omega, drop_step bs i h, beN_cons, List.length_drop, show bs.length - (bs.length - i) = i by omega]
  omega
theorem getD_drop_lt {bs : List Nat} (h : ∀ i, bs.getD i 0 < 256) (k : Nat) : ∀ i, (bs.drop k).getD i 0 < 256 := by
  intro i
  have := h (k + i)
  simpa [List.getD] using this
theorem beN_drop_lt (bs : List Nat) (h : ∀ i, bs.getD i 0 < 256) (i : Nat) (hi : i ≤ bs.length) : beN (bs.drop (bs.length - i)) < 256 ^ i := by
  have := beN_lt (bs.drop (bs.length - i)) (getD_drop_lt h _)
  rwa [List.length_drop, show bs.length - (bs.length - i) = i by omega] at this
/-- a number's words, as cells -/
def numL (n : Nat) : List Value := [.int .u64 (wdk n 0 : Nat), .int .u64 (wdk n 1 : Nat), .int .u64 (wdk n 2 : Nat), .int .u64 (wdk n 3 : Nat)]
theorem numL_get (n q : Nat) (hq : q < 4) : (numL n)[q]? = some (.int .u64 (wdk n q : Nat)) := by
  have : q = 0 ∨ q = 1 ∨ q = 2 ∨ q = 3 := by omega
  rcases this with rfl | rfl | rfl | rfl <;> rfl
/-- a byte put in above all others -/
theorem wdk_put (n x i : Nat) (hn : n < 256 ^ i) (hx : x < 256) (hi : i < 32) (q : Nat) (hq : q < 4) :
    wdk (n + x * 256 ^ i) q = if q = i / 8 then wdk n q + x * 256 ^ (i % 8) else wdk n q := by
  have h32 : i = 0 ∨ i = 1 ∨ i = 2 ∨ i = 3 ∨ i = 4 ∨ i = 5 ∨ i = 6 ∨ i = 7 ∨ i = 8 ∨ i = 9 ∨ i = 10 ∨ i = 11 ∨ i = 12 ∨ i = 13 ∨ i = 14 ∨ i = 15 ∨ i = 16 ∨ i = 17 ∨ i = 18 ∨ i = 19 ∨ i = 20 ∨ i = 21 ∨ i = 22 ∨ i = 23 ∨ i = 24 ∨ i = 25 ∨ i = 26 ∨ i = 27 ∨ i = 28 ∨ i = 29 ∨ i = 30 ∨ i = 31 := by omega
  have h4 : q = 0 ∨ q = 1 ∨ q = 2 ∨ q = 3 := by omega
  rcases h32 with rfl | rfl | rfl | rfl | rfl | rfl | rfl | rfl | rfl | rfl | rfl | rfl | rfl | rfl | rfl | rfl | rfl | rfl | rfl | rfl | rfl | rfl | rfl | rfl | rfl | rfl | rfl | rfl | rfl | rfl | rfl | rfl <;>
    simp only [Nat.reducePow, Nat.reduceDiv, Nat.reduceMod] at hn ⊢ <;> rcases h4 with rfl | rfl | rfl | rfl <;> simp only [wdk, wd0, wd1, wd2, wd3, if_true, if_false, Nat.reduceEqDiff] <;> omega
theorem wdk_small (n i : Nat) (hn : n < 256 ^ i) (hi : i < 32) : wdk n (i / 8) < 256 ^ (i % 8) := by
  have h32 : i = 0 ∨ i = 1 ∨ i = 2 ∨ i = 3 ∨ i = 4 ∨ i = 5 ∨ i = 6 ∨ i = 7 ∨ i = 8 ∨ i = 9 ∨ i = 10 ∨ i = 11 ∨ i = 12 ∨ i = 13 ∨ i = 14 ∨ i = 15 ∨ i = 16 ∨ i = 17 ∨ i = 18 ∨ i = 19 ∨ i = 20 ∨ i = 21 ∨ i = 22 ∨ i = 23 ∨ i = 24 ∨ i = 25 ∨ i = 26 ∨ i = 27 ∨ i = 28 ∨ i = 29 ∨ i = 30 ∨ i = 31 := by omega
  rcases h32 with rfl | rfl | rfl | rfl | rfl | rfl | rfl | rfl | rfl | rfl | rfl | rfl | rfl | rfl | rfl | rfl | rfl | rfl | rfl | rfl | rfl | rfl | rfl | rfl | rfl | rfl | rfl | rfl | rfl | rfl | rfl | rfl <;>
    simp only [Nat.reducePow, Nat.reduceDiv, Nat.reduceMod] at hn ⊢ <;> simp only [wdk, wd0, wd1, wd2, wd3, if_true, if_false, Nat.reduceEqDiff] <;> omega
theorem pow256 (r : Nat) : (256 : Nat) ^ r = 2 ^ (8 * r) := by rw [Nat.pow_mul]
theorem or_put (x y r : Nat) (hx : x < 256) (hr : r < 8) (hy : y < 256 ^ r) : bits .or .u64 (y : Int) (IntKind.u64.wrap ((x : Int) * 2 ^ (8 * r))) = ((y + x * 256 ^ r : Nat) : Int) := by
  have hc : ∀ a b : Int, bits .or .u64 a b = bits .or .u64 b a := fun a b => by simp only [bits, BitVec.or_comm]
  have e : (x : Int) * 2 ^ (8 * r) = ((x * 256 ^ r : Nat) : Int) := by rw [pow256, Int.natCast_mul, Int.natCast_pow]; rfl
  have hp : (256 : Nat) ^ r ≤ 256 ^ 7 := Nat.pow_le_pow_right (by omega) (by omega)
  have hm : x * 256 ^ r ≤ 255 * 256 ^ 7 := Nat.mul_le_mul (by omega) hp
  have hm2 : x * 256 ^ r < 18446744073709551616 := by omega
  have hy2 : y < 18446744073709551616 := by omega
  have e2 : IntKind.u64.wrap ((x * 256 ^ r : Nat) : Int) = ((x * 256 ^ r : Nat) : Int) := by rw [IntKind.wrap_u64]; omega
  have e3 : ((x * 256 ^ r : Nat) : Int) % 2 ^ (8 * r) = 0 := by
    have : ((2 : Int) ^ (8 * r)) = ((256 ^ r : Nat) : Int) := by rw [pow256, Int.natCast_pow]; rfl
    rw [this, ← Int.natCast_emod, Nat.mul_mod_left]; rfl
  have e4 : (y : Int) < 2 ^ (8 * r) := by
    have : ((2 : Int) ^ (8 * r)) = ((256 ^ r : Nat) : Int) := by rw [pow256, Int.natCast_pow]; rfl
    rw [this]; omega
  rw [hc, e, e2, bits_join .u64 64 (by decide) (fun n a b => by rw [IntKind.wrap_u64]; omega) (8 * r) _ _ (by omega) e3 (by omega) (by omega) e4 (by omega)]
  omega
/-- one word put in -/
theorem numL_set (n v q : Nat) (m : Nat) (hq : q < 4) (h : ∀ p, p < 4 → wdk m p = if p = q then v else wdk n p) : (numL n).set q (.int .u64 (v : Nat)) = numL m := by
  have h0 := h 0 (by omega); have h1 := h 1 (by omega); have h2 := h 2 (by omega); have h3 := h 3 (by omega)
  unfold numL
  rw [h0, h1, h2, h3]
  have : q = 0 ∨ q = 1 ∨ q = 2 ∨ q = 3 := by omega
  rcases this with rfl | rfl | rfl | rfl <;> rfl
theorem numV_numL (n : Nat) : numV n = .agg (numL n).toArray := rfl
end Go.Proofs.Ytojjbcjndgekmaa
