/- What the proof of PointBytes is made of, part 2. -/
import Derived.Test.YtkfjhndofbmhoaaZPointBytes0
import Derived.Test.YtkfjhndofbmhoaaZPointBytes1
import Derived.Lib.Hide
import Derived.Deep.QuietTactic
import Derived.BigQuiet
import Derived.BigRegion
import Derived.Test.YtkfjhndofbmhoaaZPointBytes9
import Derived.LaidEql
import Derived.Laws.BytesArg
namespace Go.Proofs.Ytkfjhndofbmhoaa
open Go.RowKit
set_option linter.unusedVariables false
set_option linter.unusedSimpArgs false
/-- A slice's bytes lie in memory. -/
def BAt (w : World) (A : Option Addr) (bs : List Nat) : Prop := (bs = [] ∨ ∃ b o, A = some ⟨b, o, none⟩ ∧ b < w.heap.size ∧ ∀ i, i < bs.length → w.cell? ⟨b, o + i, none⟩ = some (.int .u8 (bs.getD i 0 : Nat))) ∧ ∀ i, bs.getD i 0 < 256
theorem BAt.lt {w : World} {A : Option Addr} {bs : List Nat} (h : BAt w A bs) (i : Nat) : bs.getD i 0 < 256 := h.2 i
theorem BAt.below {w w' : World} {A : Option Addr} {bs : List Nat} {B : Nat} (h : BAt w A bs) (hb : Below B w w') (hB : w.heap.size ≤ B) : BAt w' A bs := by
 refine ⟨?_, h.2⟩
 rcases h.1 with h | ⟨b, o, e, hs, hc⟩
 ·exact .inl h
 ·exact .inr ⟨b, o, e, Nat.lt_of_lt_of_le hs hb.size, fun i hi => (hb.cell (p := ⟨b, o + i, none⟩) (by exact Nat.lt_of_lt_of_le hs hB)).trans (hc i hi)⟩
/-- the number of bytes, the highest first -/
def beN (bs : List Nat) : Nat := bs.foldl (fun n x => n * 256 + x) 0
theorem foldl_be (bs : List Nat) : ∀ n, bs.foldl (fun n x => n * 256 + x) n = n * 256 ^ bs.length + beN bs := by
 induction bs with
 | nil => intro n; simp [beN]
 | cons x bs ih =>
  intro n
  have h1 := ih (n * 256 + x)
  have h2 := ih (0 * 256 + x)
  simp only [List.foldl_cons, List.length_cons, beN] at *
  rw [h1, h2, Nat.pow_succ, Nat.zero_mul, Nat.zero_add, Nat.add_mul, Nat.mul_assoc, Nat.mul_comm 256]
  omega
theorem beN_cons (x : Nat) (bs : List Nat) : beN (x :: bs) = x * 256 ^ bs.length + beN bs := by
 have h := foldl_be bs x
 simpa [beN] using h
theorem beN_lt (bs : List Nat) (h : ∀ i, bs.getD i 0 < 256) : beN bs < 256 ^ bs.length := by
 induction bs with
 | nil => simp [beN]
 | cons x bs ih =>
  have h0 : x < 256 := h 0
  have h1 := ih (fun i => h (i + 1))
  rw [beN_cons, List.length_cons, Nat.pow_succ]
  have : (x + 1) * 256 ^ bs.length ≤ 256 * 256 ^ bs.length := Nat.mul_le_mul_right _ h0
  rw [Nat.add_mul] at this
  omega
/-- the last i bytes -/
theorem drop_step (bs : List Nat) (i : Nat) (h : i < bs.length) : bs.drop (bs.length - 1 - i) = bs.getD (bs.length - 1 - i) 0 :: bs.drop (bs.length - i) := by
 have hl : bs.length - 1 - i < bs.length := by omega
 rw [List.drop_eq_getElem_cons hl, show bs.length - 1 - i + 1 = bs.length - i by omega]
 simp [List.getD, hl]
theorem beN_step (bs : List Nat) (i : Nat) (h : i < bs.length) : beN (bs.drop (bs.length - (i + 1))) = beN (bs.drop (bs.length - i)) + bs.getD (bs.length - 1 - i) 0 * 256 ^ i := by
 rw [show bs.length - (i + 1) = bs.length - 1 - i by omega, drop_step bs i h, beN_cons, List.length_drop, show bs.length - (bs.length - i) = i by omega]
 omega
theorem getD_drop_lt {bs : List Nat} (h : ∀ i, bs.getD i 0 < 256) (k : Nat) : ∀ i, (bs.drop k).getD i 0 < 256 := by
 intro i
 have := h (k + i)
 simpa [List.getD] using this
theorem beN_drop_lt (bs : List Nat) (h : ∀ i, bs.getD i 0 < 256) (i : Nat) (hi : i ≤ bs.length) : beN (bs.drop (bs.length - i)) < 256 ^ i := by
 have := beN_lt (bs.drop (bs.length - i)) (getD_drop_lt h _)
 rwa [List.length_drop, show bs.length - (bs.length - i) = i by omega] at this
/-- a number's words, as cells -/
def numL (n : Nat) : List Value := [.int .u64 (wdk n 0 : Nat), .int .u64 (wdk n 1 : Nat), .int .u64 (wdk n 2 : Nat), .int .u64 (wdk n 3 : Nat)]
theorem numL_get (n q : Nat) (hq : q < 4) : (numL n)[q]? = some (.int .u64 (wdk n q : Nat)) := by
 have : q = 0 ∨ q = 1 ∨ q = 2 ∨ q = 3 := by omega
 rcases this with rfl | rfl | rfl | rfl <;> rfl
/-- a byte put in above all others -/
theorem wdk_put (n x i : Nat) (hn : n < 256 ^ i) (hx : x < 256) (hi : i < 32) (q : Nat) (hq : q < 4) :
  wdk (n + x * 256 ^ i) q = if q = i / 8 then wdk n q + x * 256 ^ (i % 8) else wdk n q := by
 have h32 : i = 0 ∨ i = 1 ∨ i = 2 ∨ i = 3 ∨ i = 4 ∨ i = 5 ∨ i = 6 ∨ i = 7 ∨ i = 8 ∨ i = 9 ∨ i = 10 ∨ i = 11 ∨ i = 12 ∨ i = 13 ∨ i = 14 ∨ i = 15 ∨ i = 16 ∨ i = 17 ∨ i = 18 ∨ i = 19 ∨ i = 20 ∨ i = 21 ∨ i = 22 ∨ i = 23 ∨ i = 24 ∨ i = 25 ∨ i = 26 ∨ i = 27 ∨ i = 28 ∨ i = 29 ∨ i = 30 ∨ i = 31 := by omega
 have h4 : q = 0 ∨ q = 1 ∨ q = 2 ∨ q = 3 := by omega
 rcases h32 with rfl | rfl | rfl | rfl | rfl | rfl | rfl | rfl | rfl | rfl | rfl | rfl | rfl | rfl | rfl | rfl | rfl | rfl | rfl | rfl | rfl | rfl | rfl | rfl | rfl | rfl | rfl | rfl | rfl | rfl | rfl | rfl <;>
  simp only [Nat.reducePow, Nat.reduceDiv, Nat.reduceMod] at hn ⊢ <;> rcases h4 with rfl | rfl | rfl | rfl <;> simp only [wdk, wd0, wd1, wd2, wd3, if_true, if_false, Nat.reduceEqDiff] <;> omega
theorem wdk_small (n i : Nat) (hn : n < 256 ^ i) (hi : i < 32) : wdk n (i / 8) < 256 ^ (i % 8) := by
 have h32 : i = 0 ∨ i = 1 ∨ i = 2 ∨ i = 3 ∨ i = 4 ∨ i = 5 ∨ i = 6 ∨ i = 7 ∨ i = 8 ∨ i = 9 ∨ i = 10 ∨ i = 11 ∨ i = 12 ∨ i = 13 ∨ i = 14 ∨ i = 15 ∨ i = 16 ∨ i = 17 ∨ i = 18 ∨ i = 19 ∨ i = 20 ∨ i = 21 ∨ i = 22 ∨ i = 23 ∨ i = 24 ∨ i = 25 ∨ i = 26 ∨ i = 27 ∨ i = 28 ∨ i = 29 ∨ i = 30 ∨ i = 31 := by omega
 rcases h32 with rfl | rfl | rfl | rfl | rfl | rfl | rfl | rfl | rfl | rfl | rfl | rfl | rfl | rfl | rfl | rfl | rfl | rfl | rfl | rfl | rfl | rfl | rfl | rfl | rfl | rfl | rfl | rfl | rfl | rfl | rfl | rfl <;>
  simp only [Nat.reducePow, Nat.reduceDiv, Nat.reduceMod] at hn ⊢ <;> simp only [wdk, wd0, wd1, wd2, wd3, if_true, if_false, Nat.reduceEqDiff] <;> omega
theorem pow256 (r : Nat) : (256 : Nat) ^ r = 2 ^ (8 * r) := by rw [Nat.pow_mul]
theorem or_put (x y r : Nat) (hx : x < 256) (hr : r < 8) (hy : y < 256 ^ r) : bits .or .u64 (y : Int) (IntKind.u64.wrap ((x : Int) * 2 ^ (8 * r))) = ((y + x * 256 ^ r : Nat) : Int) := by
 have hc : ∀ a b : Int, bits .or .u64 a b = bits .or .u64 b a := fun a b => by simp only [bits, BitVec.or_comm]
 have e : (x : Int) * 2 ^ (8 * r) = ((x * 256 ^ r : Nat) : Int) := by rw [pow256, Int.natCast_mul, Int.natCast_pow]; rfl
 have hp : (256 : Nat) ^ r ≤ 256 ^ 7 := Nat.pow_le_pow_right (by omega) (by omega)
 have hm : x * 256 ^ r ≤ 255 * 256 ^ 7 := Nat.mul_le_mul (by omega) hp
 have hm2 : x * 256 ^ r < 18446744073709551616 := by omega
 have hy2 : y < 18446744073709551616 := by omega
 have e2 : IntKind.u64.wrap ((x * 256 ^ r : Nat) : Int) = ((x * 256 ^ r : Nat) : Int) := by rw [IntKind.wrap_u64]; omega
 have e3 : ((x * 256 ^ r : Nat) : Int) % 2 ^ (8 * r) = 0 := by
  have : ((2 : Int) ^ (8 * r)) = ((256 ^ r : Nat) : Int) := by rw [pow256, Int.natCast_pow]; rfl
  rw [this, ← Int.natCast_emod, Nat.mul_mod_left]; rfl
 have e4 : (y : Int) < 2 ^ (8 * r) := by
  have : ((2 : Int) ^ (8 * r)) = ((256 ^ r : Nat) : Int) := by rw [pow256, Int.natCast_pow]; rfl
  rw [this]; omega
 rw [hc, e, e2, bits_join .u64 64 (by decide) (fun n a b => by rw [IntKind.wrap_u64]; omega) (8 * r) _ _ (by omega) e3 (by omega) (by omega) e4 (by omega)]
 omega
/-- one word put in -/
theorem numL_set (n v q : Nat) (m : Nat) (hq : q < 4) (h : ∀ p, p < 4 → wdk m p = if p = q then v else wdk n p) : (numL n).set q (.int .u64 (v : Nat)) = numL m := by
 have h0 := h 0 (by omega); have h1 := h 1 (by omega); have h2 := h 2 (by omega); have h3 := h 3 (by omega)
 unfold numL
 rw [h0, h1, h2, h3]
 have : q = 0 ∨ q = 1 ∨ q = 2 ∨ q = 3 := by omega
 rcases this with rfl | rfl | rfl | rfl <;> rfl
theorem numV_numL (n : Nat) : numV n = .agg (numL n).toArray := rfl
end Go.Proofs.Ytkfjhndofbmhoaa
namespace Go.Proofs.Ytkfjhndofbmhoaa
open Go.RowKit
set_option linter.unusedVariables false
set_option linter.unusedSimpArgs false
set_option maxRecDepth 100000 in
set_option maxHeartbeats 400000 in
theorem word_calls {w : World} {g m at_ cap : Nat} {xs : List Value} {p0 p1 p2 p3 : Nat} (h : Rw w 3 g xs) (hm : at_ + 3 < m) (hcap : m < 100)
  (h0 : xs[at_]? = some (.int .i64 (p0 : Nat))) (h1 : xs[at_ + 1]? = some (.int .i64 (p1 : Nat))) (h2 : xs[at_ + 2]? = some (.int .i64 (p2 : Nat))) (h3 : xs[at_ + 3]? = some (.int .i64 (p3 : Nat)))
  (b0 : p0 < 65536) (b1 : p1 < 65536) (b2 : p2 < 65536) (b3 : p3 < 65536) :
  Calls Try.prog 77 #[.slice (some ⟨g, 0, none⟩) m cap, .int .i64 (at_ : Nat)] w fun e w' => e = .returned (.int .u64 ((p0 + 65536 * p1 + 4294967296 * p2 + 281474976710656 * p3 : Nat) : Int)) ∧ Below w.heap.size w w' := by
 have c0 := h.cell h0
 have c1 := h.cell h1
 have c2 := h.cell h2
 have c3 := h.cell h3
 clear h h0 h1 h2 h3
 go_enter Try.func77, Try.ntmps77
 go_wp2
 go_quiet (fail)
 go_wp2
 go_ret
 refine ⟨rfl, by repeat (first | exact Below.refl _ _ | refine Below.drew ?_ | refine below_drewN ?_ _ | refine Below.alloc ?_ (by first | (simp; done) | (simp; omega)) _)⟩
theorem pt_up (n k i : Nat) : pt n (k + i) = n / 65536 ^ k / 65536 ^ i % 65536 := by unfold pt; rw [Nat.pow_add, Nat.div_div_eq_div_mul]
theorem word_pt {w : World} {g m at_ cap n : Nat} (h : Rw w 3 g (ptL n m)) (hm : at_ + 3 < m) (hcap : m < 100) :
  Calls Try.prog 77 #[.slice (some ⟨g, 0, none⟩) m cap, .int .i64 (at_ : Nat)] w fun e w' => e = .returned (.int .u64 ((n / 65536 ^ at_ % 18446744073709551616 : Nat) : Int)) ∧ Below w.heap.size w w' := by
 have e : n / 65536 ^ at_ % 18446744073709551616 = pt n at_ + 65536 * pt n (at_ + 1) + 4294967296 * pt n (at_ + 2) + 281474976710656 * pt n (at_ + 3) := by
  rw [pt_up, pt_up, pt_up]; unfold pt
  generalize n / 65536 ^ at_ = q
  simp only [Nat.reducePow]
  omega
 rw [e]
 exact word_calls h hm hcap (ptL_get _ _ _ (by omega)) (ptL_get _ _ _ (by omega)) (ptL_get _ _ _ (by omega)) (ptL_get _ _ _ (by omega)) (pt_lt _ _) (pt_lt _ _) (pt_lt _ _) (pt_lt _ _)
set_option maxRecDepth 100000 in
set_option maxHeartbeats 400000 in
/-- clapperref01.Num -/
theorem num_calls {w : World} {g cap n : Nat} (h : Rw w 3 g (ptL n 16)) :
  Calls Try.prog 68 #[.slice (some ⟨g, 0, none⟩) 16 cap] w fun e w' => e = .returned (numV (n % N256)) ∧ Below w.heap.size w w' := by
 have e0 : wd0 (n % N256) = n / 65536 ^ 0 % 18446744073709551616 := by unfold wd0 N256; simp only [Nat.reducePow]; omega
 have e1 : wd1 (n % N256) = n / 65536 ^ 4 % 18446744073709551616 := by unfold wd1 N256; simp only [Nat.reducePow]; omega
 have e2 : wd2 (n % N256) = n / 65536 ^ 8 % 18446744073709551616 := by unfold wd2 N256; simp only [Nat.reducePow]; omega
 have e3 : wd3 (n % N256) = n / 65536 ^ 12 % 18446744073709551616 := by unfold wd3 N256; simp only [Nat.reducePow]; omega
 rw [numV_def]
 have hz := h.size
 have H0 := fun (o : Obj) => word_pt (at_ := 0) (cap := cap) (h.alloc o) (by omega) (by omega)
 rw [← e0] at H0
 have E1 := Lib.hid e1; have E2 := Lib.hid e2; have E3 := Lib.hid e3; have HH := Lib.hid h
 have K0 := Lib.hid H0
 clear e0 e1 e2 e3 h H0
 go_enter Try.func68, Try.ntmps68
 go_wp2_with fail
 refine (K0.out _).mono ?_
 rintro e w1 ⟨rfl, hb1⟩
 have r1 := (HH.out.alloc _).below hb1 (by simp; omega)
 have k1 := word_pt (at_ := 4) (cap := cap) r1 (by omega) (by omega)
 rw [← E1.out] at k1
 have K1 := Lib.hid k1; have R1 := Lib.hid r1; clear k1 r1
 go_wp2_with fail
 refine K1.out.mono ?_
 rintro e w2 ⟨rfl, hb2⟩
 have r2 := R1.out.below hb2 R1.out.size
 have k2 := word_pt (at_ := 8) (cap := cap) r2 (by omega) (by omega)
 rw [← E2.out] at k2
 have K2 := Lib.hid k2; have R2 := Lib.hid r2; clear k2 r2
 go_wp2_with fail
 refine K2.out.mono ?_
 rintro e w3 ⟨rfl, hb3⟩
 have r3 := R2.out.below hb3 R2.out.size
 have k3 := word_pt (at_ := 12) (cap := cap) r3 (by omega) (by omega)
 rw [← E3.out] at k3
 have K3 := Lib.hid k3; have R3 := Lib.hid r3; clear k3 r3
 go_wp2_with fail
 refine K3.out.mono ?_
 rintro e w4 ⟨rfl, hb4⟩
 have hs1 : w.heap.size + 1 ≤ w1.heap.size := by have := hb1.size; simp at this; omega
 have hb : Below (w.heap.size + 1) (w.alloc (Obj.cells #[.int .u64 0, .int .u64 0, .int .u64 0, .int .u64 0] 24)) w4 :=
  ((hb1.mono (by simp)).trans (hb2.mono (by omega))).trans ((hb3.mono (by have := hb2.size; omega)).trans (hb4.mono (by have := hb2.size; have := hb3.size; omega)))
 have f0 := (hb.cell (p := ⟨w.heap.size, 0, none⟩) (by simp)).trans (World.cell?_alloc_at _ _ _ _ rfl)
 have f1 := (hb.cell (p := ⟨w.heap.size, 1, none⟩) (by simp)).trans (World.cell?_alloc_at _ _ _ _ rfl)
 have f2 := (hb.cell (p := ⟨w.heap.size, 2, none⟩) (by simp)).trans (World.cell?_alloc_at _ _ _ _ rfl)
 have f3 := (hb.cell (p := ⟨w.heap.size, 3, none⟩) (by simp)).trans (World.cell?_alloc_at _ _ _ _ rfl)
 have z0 := (hb.frozen (p := ⟨w.heap.size, 0, none⟩) (by simp)).trans (World.frozen?_alloc_at _ _ _ _ rfl)
 have z1 := (hb.frozen (p := ⟨w.heap.size, 1, none⟩) (by simp)).trans (World.frozen?_alloc_at _ _ _ _ rfl)
 have z2 := (hb.frozen (p := ⟨w.heap.size, 2, none⟩) (by simp)).trans (World.frozen?_alloc_at _ _ _ _ rfl)
 have z3 := (hb.frozen (p := ⟨w.heap.size, 3, none⟩) (by simp)).trans (World.frozen?_alloc_at _ _ _ _ rfl)
 simp at f0 f1 f2 f3
 have hfin : Below w.heap.size w w4 := ((Below.refl _ _).alloc (Nat.le_refl _) _).trans (hb.mono (by omega))
 clear hb1 hb2 hb3 hb4 hb
 go_wp2
 refine bodyPost_ret (v := .agg #[.int .u64 (wd0 (n % N256) : Nat), .int .u64 (wd1 (n % N256) : Nat), .int .u64 (wd2 (n % N256) : Nat), .int .u64 (wd3 (n % N256) : Nat)]) (by simp [results, Try.results68, go_sem, f0, f1, f2, f3]) rfl ⟨rfl, ?_⟩
 repeat (first | exact hfin | refine Below.setCell ?_ (by exact Nat.le_refl _) _)
theorem pow_pos' (k : Nat) : 0 < 65536 ^ k := Nat.pow_pos (by omega)
theorem mod_up (a k : Nat) : a % 65536 ^ (k + 1) = a % 65536 ^ k + 65536 ^ k * pt a k := by
 unfold pt; rw [Nat.pow_succ, Nat.mod_mul]
end Go.Proofs.Ytkfjhndofbmhoaa
namespace Go.Proofs.Ytkfjhndofbmhoaa
open Go.RowKit
set_option linter.unusedVariables false
set_option linter.unusedSimpArgs false
theorem cmp_next (a b k : Nat) : cmpI (a % 65536 ^ (k + 1)) (b % 65536 ^ (k + 1)) = if pt a k < pt b k then -1 else if pt b k < pt a k then 1 else cmpI (a % 65536 ^ k) (b % 65536 ^ k) := by
 rw [mod_up, mod_up]
 have hp := pow_pos' k
 have h1 := Nat.mod_lt a hp
 have h2 := Nat.mod_lt b hp
 generalize a % 65536 ^ k = A at *
 generalize b % 65536 ^ k = B at *
 generalize pt a k = p
 generalize pt b k = q
 generalize 65536 ^ k = M at *
 unfold cmpI
 by_cases hpq : p < q
 ·have : M * (p + 1) ≤ M * q := Nat.mul_le_mul_left _ hpq
  rw [Nat.mul_add] at this
  rw [if_pos (by omega), if_pos hpq]
 ·by_cases hqp : q < p
  ·have : M * (q + 1) ≤ M * p := Nat.mul_le_mul_left _ hqp
   rw [Nat.mul_add] at this
   rw [if_neg (by omega), if_pos (by omega), if_neg hpq, if_pos hqp]
  ·have e : p = q := by omega
   subst e
   rw [if_neg hpq, if_neg hpq]
   by_cases h3 : A < B
   ·rw [if_pos (by omega), if_pos h3]
   ·rw [if_neg (by omega), if_neg h3]
    by_cases h4 : B < A
    ·rw [if_pos (by omega), if_pos h4]
    ·rw [if_neg (by omega), if_neg h4]
theorem cmp_end (a b : Nat) (ha : a < N256) (hb : b < N256) : cmpI (a % 65536 ^ 16) (b % 65536 ^ 16) = cmpI a b := by
 have e : 65536 ^ 16 = N256 := by unfold N256; decide
 rw [e, Nat.mod_eq_of_lt ha, Nat.mod_eq_of_lt hb]
set_option maxRecDepth 100000 in
set_option maxHeartbeats 1600000 in
/-- clapperref01.Cmp -/
theorem rcmp_calls {va vb : Value} {a b : Nat} (ha : IsNum va a) (hb : IsNum vb b) (w : World) :
  Calls Try.prog 34 #[va, vb] w fun e w' => e = .returned (.int .i64 (cmpI a b)) ∧ Below w.heap.size w w' := by
 have HE := Lib.hid (cmp_end a b ha.2 hb.2)
 obtain ⟨rfl, ha⟩ := ha
 obtain ⟨rfl, hb⟩ := hb
 have P0 := fun w => parts_calls (IsNum.mk ha) w
 have P1 := fun w => parts_calls (IsNum.mk hb) w
 rw [numV_def] at P0 P1
 have K0 := Lib.hid P0; have K1 := Lib.hid P1
 clear P0 P1
 rw [numV_def, numV_def]
 go_enter Try.func34, Try.ntmps34
 go_wp2_with fail
 refine (K0.out _).mono ?_
 rintro e w1 ⟨gx, cx, rfl, hgx, hcx, rx, hb1⟩
 have hs1 : w.heap.size + 2 ≤ w1.heap.size := by have := hb1.size; simp at this; omega
 have hgx' : w.heap.size + 2 ≤ gx := by simp at hgx; omega
 have ry := ((Rw.new (n := w.heap.size + 1) (by simp))).below hb1 (by simp)
 obtain ⟨cy0, cy1, cy2, cy3⟩ := ry.four
 have hB1 : Below w.heap.size w w1 := (show Below w.heap.size w _ from by repeat (first | exact Below.refl _ _ | refine Below.drew ?_ | refine below_drewN ?_ _ | refine Below.alloc ?_ (by first | (simp; done) | (simp; omega)) _)).trans (hb1.mono (by simp; omega))
 have RX := Lib.hid rx
 have hzx := rx.size
 clear rx ry hb1 hgx
 go_wp2_with fail
 refine (K1.out _).mono ?_
 rintro e w2 ⟨gy, cy, rfl, hgy, hcy, ry, hb2⟩
 have rx2 := RX.out.below hb2 RX.out.size
 have hB2 := hB1.trans (hb2.mono (by omega))
 have RX2 := Lib.hid rx2; have RY2 := Lib.hid ry
 clear rx2 ry hb2 RX hgy cy0 cy1 cy2 cy3 hB1 hs1 hzx
 go_wp2
 go_loopw [7, 8] (fun c i wr => ∃ k : Nat, k ≤ 16 ∧ i = .int .i64 k ∧ c = .int .i64 (cmpI (a % 65536 ^ k) (b % 65536 ^ k)) ∧ Hid (Rw wr 3 gx (ptL a 16)) ∧ Hid (Rw wr 3 gy (ptL b 16)) ∧ Below w.heap.size w wr)
  (fun _ i _ => 16 - (intOf i).toNat)
 case atStart =>
  exact ⟨0, Nat.zero_le _, rfl, by rw [Nat.pow_zero, Nat.mod_one, Nat.mod_one]; rfl, RX2, RY2, hB2⟩
 case round =>
  obtain ⟨k, hk, rfl, rfl, HX, HY, hB⟩ := hrel
  by_cases hk16 : k < 16
  ·have cx := HX.out.cell (ptL_get _ _ _ hk16)
   have cy := HY.out.cell (ptL_get _ _ _ hk16)
   have HC := Lib.hid (cmp_next a b k)
   by_cases h1 : ((pt a k : Nat) : Int) < (pt b k : Nat)
   ·have h1' : ¬ ((pt b k : Nat) : Int) < (pt a k : Nat) := by omega
    go_wp2
    go_quiet (fail)
    go_wp2
    go_quiet (fail)
    go_wp2
    go_roundw
    case rel => exact ⟨k + 1, by omega, by go_num, by rw [HC.out, if_pos (by omega)], Lib.hid ((HX.out.drewN _)), Lib.hid ((HY.out.drewN _)), below_drewN hB _⟩
    case measure => simp [intOf]; omega
   ·by_cases h2 : ((pt b k : Nat) : Int) < (pt a k : Nat)
    ·go_wp2
     go_quiet (fail)
     go_wp2
     go_quiet (fail)
     go_wp2
     go_roundw
     case rel => exact ⟨k + 1, by omega, by go_num, by rw [HC.out, if_neg (by omega), if_pos (by omega)], Lib.hid ((HX.out.drewN _)), Lib.hid ((HY.out.drewN _)), below_drewN hB _⟩
     case measure => simp [intOf]; omega
    ·go_wp2
     go_quiet (fail)
     go_wp2
     go_quiet (fail)
     go_wp2
     go_roundw
     case rel => exact ⟨k + 1, by omega, by go_num, by rw [HC.out, if_neg (by omega), if_neg (by omega)], Lib.hid ((HX.out.drewN _)), Lib.hid ((HY.out.drewN _)), below_drewN hB _⟩
     case measure => simp [intOf]; omega
  ·have hk17 : k = 16 := by omega
   subst hk17
   go_wp2
   go_ret
   exact ⟨ret_int HE.out, hB⟩
end Go.Proofs.Ytkfjhndofbmhoaa
namespace Go.Proofs.Ytkfjhndofbmhoaa
open Go.RowKit
set_option linter.unusedVariables false
set_option linter.unusedSimpArgs false
/-- byte i of a number, from the lowest on -/
def by8 (a i : Nat) : Nat := a / 256 ^ i % 256
def fnB (f : Nat → Nat) (m : Nat) : List Value := (List.range m).map fun j => .int .u8 (f j : Nat)
theorem fnB_length (f : Nat → Nat) (m : Nat) : (fnB f m).length = m := by simp [fnB]
theorem fnB_get (f : Nat → Nat) (m j : Nat) (h : j < m) : (fnB f m)[j]? = some (.int .u8 (f j : Nat)) := by simp [fnB, h]
theorem fnB_congr {f g : Nat → Nat} {m : Nat} (h : ∀ j, j < m → f j = g j) : fnB f m = fnB g m := by
 unfold fnB
 apply List.map_congr_left
 intro j hj
 rw [h j (List.mem_range.1 hj)]
theorem fnB_set (f : Nat → Nat) (m k v : Nat) : (fnB f m).set k (.int .u8 (v : Nat)) = fnB (fun j => if j = k then v else f j) m := by
 apply List.ext_getElem?
 intro j
 rw [List.getElem?_set, fnB_length]
 by_cases hj : j < m
 ·rw [fnB_get _ _ _ hj, fnB_get _ _ _ hj]
  by_cases hk : k = j
  ·subst hk; rw [if_pos rfl, if_pos hj]; simp
  ·rw [if_neg hk, if_neg (fun e => hk e.symm)]
 ·have h1 : ∀ f : Nat → Nat, (fnB f m)[j]? = none := fun f => List.getElem?_eq_none (by rw [fnB_length]; omega)
  rw [h1, h1]
  split
  ·rw [if_neg (by omega)]
  ·rfl
theorem wdk_by8 (a i : Nat) (hi : i < 32) : wdk a (i / 8) / 256 ^ (i % 8) % 256 = by8 a i := by
 have h32 : i = 0 ∨ i = 1 ∨ i = 2 ∨ i = 3 ∨ i = 4 ∨ i = 5 ∨ i = 6 ∨ i = 7 ∨ i = 8 ∨ i = 9 ∨ i = 10 ∨ i = 11 ∨ i = 12 ∨ i = 13 ∨ i = 14 ∨ i = 15 ∨ i = 16 ∨ i = 17 ∨ i = 18 ∨ i = 19 ∨ i = 20 ∨ i = 21 ∨ i = 22 ∨ i = 23 ∨ i = 24 ∨ i = 25 ∨ i = 26 ∨ i = 27 ∨ i = 28 ∨ i = 29 ∨ i = 30 ∨ i = 31 := by omega
 rcases h32 with rfl | rfl | rfl | rfl | rfl | rfl | rfl | rfl | rfl | rfl | rfl | rfl | rfl | rfl | rfl | rfl | rfl | rfl | rfl | rfl | rfl | rfl | rfl | rfl | rfl | rfl | rfl | rfl | rfl | rfl | rfl | rfl <;>
  simp only [Nat.reducePow, Nat.reduceDiv, Nat.reduceMod, by8, wdk, wd0, wd1, wd2, wd3, if_true, if_false, Nat.reduceEqDiff] <;> omega
/-- the bytes, the highest first, of which the last k are there -/
def bG (a k : Nat) : Nat → Nat := fun j => if 31 < j + k then by8 a (31 - j) else 0
theorem bG_zero (a : Nat) : fnB (bG a 0) 32 = fnB (fun _ => 0) 32 := fnB_congr fun j hj => by unfold bG; rw [if_neg (by omega)]
theorem bG_full (a : Nat) : fnB (bG a 32) 32 = fnB (fun j => by8 a (31 - j)) 32 := fnB_congr fun j hj => by unfold bG; rw [if_pos (by omega)]
theorem bG_set (a k : Nat) (hk : k < 32) : (fnB (bG a k) 32).set (31 - k) (.int .u8 (by8 a k : Nat)) = fnB (bG a (k + 1)) 32 := by
 rw [fnB_set]
 apply fnB_congr
 intro j hj
 unfold bG
 by_cases h : j = 31 - k
 ·rw [if_pos h, if_pos (by omega)]; congr 1; omega
 ·rw [if_neg h]
  by_cases h2 : 31 < j + k
  ·rw [if_pos h2, if_pos (by omega)]
  ·rw [if_neg h2, if_neg (by omega)]
end Go.Proofs.Ytkfjhndofbmhoaa
namespace Go.Proofs.Ytkfjhndofbmhoaa
open Go.RowKit
set_option linter.unusedVariables false
set_option linter.unusedSimpArgs false
set_option maxRecDepth 100000 in
set_option maxHeartbeats 800000 in
/-- limb.Of -/
theorem of_calls {A : Option Addr} {bs : List Nat} {cap : Nat} {w : World} (hb : BAt w A bs) (h : bs.length ≤ 32) :
  Calls Try.prog 48 #[.slice A bs.length cap] w fun e w' => e = .returned (.tuple #[numV (beN bs), .nilIface]) ∧ Below w.heap.size w w' := by
 have HB := Lib.hid hb
 have hd : decide ((32 : Int) < (bs.length : Int)) = false := by simp; omega
 clear hb
 go_enter Try.func48, Try.ntmps48
 go_wp2
 go_loopw [13] (fun i wr => ∃ k : Nat, k ≤ bs.length ∧ i = .int .i64 k ∧ Hid (Rw wr 24 (w.heap.size + 1) (numL (beN (bs.drop (bs.length - k))))) ∧ Hid (Rw wr 24 w.heap.size [.int .u64 0, .int .u64 0, .int .u64 0, .int .u64 0]) ∧ Below w.heap.size w wr)
  (fun i _ => bs.length - (intOf i).toNat)
 case atStart =>
  refine ⟨0, Nat.zero_le _, rfl, Lib.hid ?_, Lib.hid ?_, by repeat (first | exact Below.refl _ _ | refine Below.alloc ?_ (by first | (simp; done) | (simp; omega)) _)⟩
  ·rw [Nat.sub_zero, List.drop_length]
   exact Rw.new (by simp)
  ·exact (Rw.new rfl).alloc _
 case round =>
  obtain ⟨k, hk, rfl, HX, HZ, hB⟩ := hrel
  by_cases hkl : k < bs.length
  ·have hq : k / 8 < 4 := by omega
   have cx := HX.out.cell (numL_get _ _ hq)
   have fx := HX.out.free (k / 8)
   have hl := HB.out.lt (bs.length - 1 - k)
   have hn := beN_drop_lt bs HB.out.2 k (by omega)
   obtain ⟨b, o, rfl, hbs, hcell⟩ : ∃ b o, A = some ⟨b, o, none⟩ ∧ b < w.heap.size ∧ ∀ i, i < bs.length → w.cell? ⟨b, o + i, none⟩ = some (.int .u8 (bs.getD i 0 : Nat)) := by
    rcases HB.out.1 with h | h
    ·rw [h] at hkl; simp at hkl
    ·exact h
   have cb := (hB.cell (p := ⟨b, o + (bs.length - 1 - k), none⟩) hbs).trans (hcell (bs.length - 1 - k) (by omega))
   have hp := wdk_put (beN (bs.drop (bs.length - k))) (bs.getD (bs.length - 1 - k) 0) k hn hl (by omega)
   have hst := beN_step bs k hkl
   have hsm := wdk_small _ k hn (by omega)
   have hor := or_put (bs.getD (bs.length - 1 - k) 0) _ (k % 8) hl (by omega) hsm
   have hpk := hp (k / 8) hq
   rw [if_pos rfl] at hpk
   rw [← hpk] at hor
   have HOR := Lib.hid hor
   clear hor hpk hsm
   have HP := Lib.hid hp; have HS := Lib.hid hst; have HN := Lib.hid hn; have HC := Lib.hid hcell
   clear hp hst hn hcell
   have hw := wdk_lt (beN (bs.drop (bs.length - k))) (k / 8)
   have hxe : ∃ x, x = bs.getD (bs.length - 1 - k) 0 := ⟨_, rfl⟩
   obtain ⟨x, hxe⟩ := hxe
   have hne : ∃ y, y = wdk (beN (bs.drop (bs.length - k))) (k / 8) := ⟨_, rfl⟩
   obtain ⟨y, hne⟩ := hne
   rw [← hxe] at hl cb HOR HP HS
   rw [← hne] at cx HOR hw
   have HXE := Lib.hid hxe; have HNE := Lib.hid hne
   clear hxe hne
   have hsz := hB.size
   go_wp2
   go_region
   rw [HOR.out]
   have hx2 := HX.out.set (k / 8) (.int .u64 ((wdk (beN (bs.drop (bs.length - k)) + x * 256 ^ k) (k / 8) : Nat) : Int))
   rw [numL_set _ _ _ (beN (bs.drop (bs.length - (k + 1)))) hq (fun p hp => by
    rw [HS.out]
    by_cases e : p = k / 8
    ·rw [if_pos e, e]
    ·rw [if_neg e, HP.out p hp, if_neg e])] at hx2
   have HX2 := Lib.hid hx2
   have hz2 := HZ.out.set_other (a := ⟨w.heap.size + 1, k / 8, none⟩) (by simp) (.int .u64 ((wdk (beN (bs.drop (bs.length - k)) + x * 256 ^ k) (k / 8) : Nat) : Int))
   have HZ2 := Lib.hid hz2
   have hB2 := hB.setCell (p := ⟨w.heap.size + 1, k / 8, none⟩) (by simp) (.int .u64 ((wdk (beN (bs.drop (bs.length - k)) + x * 256 ^ k) (k / 8) : Nat) : Int))
   clear hx2 hz2 cx cb fx
   generalize wdk (beN (bs.drop (bs.length - k)) + x * 256 ^ k) (k / 8) = z at *
   generalize wr.setCell ⟨w.heap.size + 1, k / 8, none⟩ (.int .u64 (z : Nat)) = wz at *
   go_wp2
   go_roundw
   case rel => exact ⟨k + 1, by omega, by go_num, HX2, HZ2, hB2.drew⟩
   case measure => simp [intOf]; omega
  ·have hk2 : k = bs.length := by omega
   have hx := HX.out
   rw [hk2, Nat.sub_self, List.drop_zero] at hx
   obtain ⟨a0, a1, a2, a3⟩ := hx.four
   obtain ⟨c0, c1, c2, c3⟩ := HZ.out.four
   have z0 := HZ.out.free 0
   have z1 := HZ.out.free 1
   have z2 := HZ.out.free 2
   have z3 := HZ.out.free 3
   have hzs := HZ.out.size
   clear hx
   go_wp2
   refine bodyPost_ret (v := .tuple #[.agg #[.int .u64 (wdk (beN bs) 0 : Nat), .int .u64 (wdk (beN bs) 1 : Nat), .int .u64 (wdk (beN bs) 2 : Nat), .int .u64 (wdk (beN bs) 3 : Nat)], .nilIface]) (by simp [results, Try.results48, go_sem, a0, a1, a2, a3, c0, c1, c2, c3]) rfl ⟨rfl, ?_⟩
   repeat (first | exact hB | refine Below.setCell ?_ (by simp) _)
end Go.Proofs.Ytkfjhndofbmhoaa
namespace Go.Proofs.Ytkfjhndofbmhoaa
open Go.RowKit
set_option linter.unusedVariables false
set_option linter.unusedSimpArgs false
/-- a byte put in above all others, by parts -/
theorem pt_put (n x i : Nat) (hn : n < 256 ^ i) (hx : x < 256) (hi : i < 32) (q : Nat) :
  pt (n + x * 256 ^ i) q = if q = i / 2 then pt n q + x * 256 ^ (i % 2) else pt n q := by
 have e : 256 ^ i = 65536 ^ (i / 2) * 256 ^ (i % 2) := by
  rw [show (65536 : Nat) = 256 ^ 2 from by decide, ← Nat.pow_mul, ← Nat.pow_add]; congr 1; omega
 have hr : i % 2 = 0 ∨ i % 2 = 1 := by omega
 rw [e] at hn ⊢
 unfold pt
 by_cases hq : q = i / 2
 ·rw [if_pos hq, ← hq]
  have e2 : n + x * (65536 ^ q * 256 ^ (i % 2)) = n + 65536 ^ q * (x * 256 ^ (i % 2)) := by rw [Nat.mul_left_comm]
  rw [← hq] at hn
  have hd : n / 65536 ^ q < 256 ^ (i % 2) := (Nat.div_lt_iff_lt_mul (Nat.pow_pos (by omega))).2 (by rw [Nat.mul_comm]; exact hn)
  rw [e2, Nat.add_mul_div_left _ _ (Nat.pow_pos (by omega))]
  generalize n / 65536 ^ q = m at *
  rcases hr with h | h <;> (rw [h] at hd ⊢; simp only [Nat.reducePow] at hd ⊢; omega)
 ·rw [if_neg hq]
  by_cases hlt : q < i / 2
  ·have e3 : 65536 ^ (i / 2) = 65536 ^ q * (65536 * 65536 ^ (i / 2 - q - 1)) := by rw [← Nat.pow_succ', ← Nat.pow_add]; congr 1; omega
   rw [e3]
   have e4 : n + x * (65536 ^ q * (65536 * 65536 ^ (i / 2 - q - 1)) * 256 ^ (i % 2)) = n + 65536 ^ q * (65536 * (x * 65536 ^ (i / 2 - q - 1) * 256 ^ (i % 2))) := by
    congr 1; ac_rfl
   rw [e4, Nat.add_mul_div_left _ _ (Nat.pow_pos (by omega)), Nat.add_mul_mod_self_left]
  ·have hle : 65536 ^ (i / 2 + 1) ≤ 65536 ^ q := Nat.pow_le_pow_right (by omega) (by omega)
   have hb : (x + 1) * (65536 ^ (i / 2) * 256 ^ (i % 2)) ≤ 65536 ^ (i / 2 + 1) := by
    rw [Nat.pow_succ, Nat.mul_left_comm]
    apply Nat.mul_le_mul_left
    rcases hr with h | h <;> (rw [h]; simp only [Nat.reducePow]; omega)
   rw [Nat.add_mul, Nat.one_mul] at hb
   rw [Nat.div_eq_of_lt (by omega), Nat.div_eq_of_lt (by omega)]
set_option maxRecDepth 100000 in
set_option maxHeartbeats 1600000 in
/-- clapperref01.Of -/
theorem rof_calls {A : Option Addr} {bs : List Nat} {cap : Nat} {w : World} (hb : BAt w A bs) (h : bs.length ≤ 32) :
  Calls Try.prog 49 #[.slice A bs.length cap] w fun e w' => e = .returned (numV (beN bs)) ∧ Below w.heap.size w w' := by
 have hlt : beN bs < N256 := by
  have h1 := beN_lt bs hb.2
  have h2 : 256 ^ bs.length ≤ 256 ^ 32 := Nat.pow_le_pow_right (by omega) h
  have e : 256 ^ 32 = N256 := by unfold N256; decide
  omega
 have HM := Lib.hid (Nat.mod_eq_of_lt hlt)
 have HB := Lib.hid hb
 clear hb hlt
 rw [numV_def]
 have hmk : ∀ w : World, (Instr.makeSlice 83 (.int .i64 16) (.int .i64 16)).run Try.prog w = .ok (.slice (some ⟨w.heap.size, 0, none⟩) 16 16) (w.alloc (.cells #[.int .i64 0, .int .i64 0, .int .i64 0, .int .i64 0, .int .i64 0, .int .i64 0, .int .i64 0, .int .i64 0, .int .i64 0, .int .i64 0, .int .i64 0, .int .i64 0, .int .i64 0, .int .i64 0, .int .i64 0, .int .i64 0] 3)) := fun _ => by kernel_rfl
 go_enter Try.func49, Try.ntmps49
 go_wp2
 go_loopw [4] (fun i wr => ∃ k : Nat, k ≤ bs.length ∧ i = .int .i64 k ∧ Hid (Rw wr 3 (w.heap.size + 1) (ptL (beN (bs.drop (bs.length - k))) 16)) ∧ Hid (Rw wr 24 w.heap.size [.int .u64 0, .int .u64 0, .int .u64 0, .int .u64 0]) ∧ Below w.heap.size w wr)
  (fun i _ => bs.length - (intOf i).toNat)
 case atStart =>
  refine ⟨0, Nat.zero_le _, rfl, Lib.hid ?_, Lib.hid ?_, by repeat (first | exact Below.refl _ _ | refine Below.drew ?_ | refine below_drewN ?_ _ | refine Below.alloc ?_ (by first | (simp; done) | (simp; omega)) _)⟩
  ·rw [Nat.sub_zero, List.drop_length]
   have : ptL (beN []) 16 = fnL (fun _ => 0) 16 := fnL_congr fun j _ => by unfold pt beN; simp
   rw [this]
   exact Rw.new (by simp)
  ·exact (Rw.new rfl).alloc _
 case round =>
  obtain ⟨k, hk, rfl, HX, HZ, hB⟩ := hrel
  by_cases hkl : k < bs.length
  ·have hq : k / 2 < 16 := by omega
   have cx := HX.out.cell (ptL_get _ _ _ hq)
   have fx := HX.out.free (k / 2)
   have hl := HB.out.lt (bs.length - 1 - k)
   have hn := beN_drop_lt bs HB.out.2 k (by omega)
   obtain ⟨b, o, rfl, hbs, hcell⟩ : ∃ b o, A = some ⟨b, o, none⟩ ∧ b < w.heap.size ∧ ∀ i, i < bs.length → w.cell? ⟨b, o + i, none⟩ = some (.int .u8 (bs.getD i 0 : Nat)) := by
    rcases HB.out.1 with h | h
    ·rw [h] at hkl; simp at hkl
    ·exact h
   have cb := (hB.cell (p := ⟨b, o + (bs.length - 1 - k), none⟩) hbs).trans (hcell (bs.length - 1 - k) (by omega))
   have hp := pt_put (beN (bs.drop (bs.length - k))) (bs.getD (bs.length - 1 - k) 0) k hn hl (by omega)
   have hst := beN_step bs k hkl
   rw [← hst] at hp
   have hps := hp (k / 2)
   rw [if_pos rfl] at hps
   have hpl := pt_lt (beN (bs.drop (bs.length - k))) (k / 2)
   have HP := Lib.hid hp; have HPS := Lib.hid hps
   obtain ⟨x, hxe⟩ : ∃ x, x = bs.getD (bs.length - 1 - k) 0 := ⟨_, rfl⟩
   rw [← hxe] at hl cb HP HPS
   obtain ⟨y, hye⟩ : ∃ y, y = pt (beN (bs.drop (bs.length - k))) (k / 2) := ⟨_, rfl⟩
   rw [← hye] at cx hpl HPS
   have HXE := Lib.hid hxe; have HYE := Lib.hid hye
   obtain ⟨z, hze⟩ : ∃ z, z = pt (beN (bs.drop (bs.length - (k + 1)))) (k / 2) := ⟨_, rfl⟩
   rw [← hze] at HPS
   have HZE := Lib.hid hze
   have hsz := hB.size
   have set16 : Hid (∀ wz, wz = wr.setCell ⟨w.heap.size + 1, k / 2, none⟩ (.int .i64 (z : Nat)) → Rw wz 3 (w.heap.size + 1) (ptL (beN (bs.drop (bs.length - (k + 1)))) 16) ∧ Rw wz 24 w.heap.size [.int .u64 0, .int .u64 0, .int .u64 0, .int .u64 0] ∧ Below w.heap.size w wz) := Lib.hid (by
    rintro wz rfl
    refine ⟨?_, HZ.out.set_other (by simp) _, hB.setCell (by simp) _⟩
    have h1 := HX.out.set (k / 2) (.int .i64 (z : Nat))
    rw [fnL_set] at h1
    have e : fnL (fun j => if j = k / 2 then z else pt (beN (bs.drop (bs.length - k))) j) 16 = ptL (beN (bs.drop (bs.length - (k + 1)))) 16 := fnL_congr fun j _ => by
     by_cases hj : j = k / 2
     ·rw [if_pos hj, HZE.out, hj]
     ·rw [if_neg hj, HP.out j, if_neg hj]
    rw [e] at h1
    exact h1)
   clear hp hst hps hn hcell hxe hye hze HX HZ hB
   have hr : k % 2 = 0 ∨ k % 2 = 1 := by omega
   rcases hr with hr | hr
   ·have hv : (y : Int) + (x : Int) = (z : Int) := by have := HPS.out; rw [hr] at this; simp at this; omega
    have HV := Lib.hid hv
    have hrb : ((k : Int) % 2 == 0) = true := by rw [beq_iff_eq]; omega
    have HR := Lib.hid hr
    clear hv hr
    go_wp2
    go_region
    rw [HV.out]
    obtain ⟨wz, hwz⟩ : ∃ wz, wz = wr.setCell ⟨w.heap.size + 1, k / 2, none⟩ (.int .i64 (z : Nat)) := ⟨_, rfl⟩
    rw [← hwz]
    obtain ⟨hx2, hz2, hb2⟩ := set16.out wz hwz
    have HX2 := Lib.hid hx2; have HZ2 := Lib.hid hz2
    clear hx2 hz2 hwz cx cb fx
    go_wp2
    go_roundw
    case rel => exact ⟨k + 1, by omega, by go_num, HX2, HZ2, hb2.drew⟩
    case measure => simp [intOf]; omega
   ·have hv : (y : Int) + 256 * (x : Int) = (z : Int) := by have := HPS.out; rw [hr] at this; simp at this; omega
    have HV := Lib.hid hv
    have hrb : ((k : Int) % 2 == 0) = false := by rw [beq_eq_false_iff_ne]; omega
    have HR := Lib.hid hr
    clear hv hr
    go_wp2
    go_region
    rw [HV.out]
    obtain ⟨wz, hwz⟩ : ∃ wz, wz = wr.setCell ⟨w.heap.size + 1, k / 2, none⟩ (.int .i64 (z : Nat)) := ⟨_, rfl⟩
    rw [← hwz]
    obtain ⟨hx2, hz2, hb2⟩ := set16.out wz hwz
    have HX2 := Lib.hid hx2; have HZ2 := Lib.hid hz2
    clear hx2 hz2 hwz cx cb fx
    go_wp2
    go_roundw
    case rel => exact ⟨k + 1, by omega, by go_num, HX2, HZ2, hb2.drew⟩
    case measure => simp [intOf]; omega
  ·have hk2 : k = bs.length := by omega
   have hx := HX.out
   rw [hk2, Nat.sub_self, List.drop_zero] at hx
   have hn := num_calls (cap := 16) hx
   rw [HM.out, numV_def] at hn
   have HN := Lib.hid hn
   clear hx hn
   go_wp2_with fail
   refine HN.out.mono ?_
   rintro e w3 ⟨rfl, hb3⟩
   have rz3 := HZ.out.below hb3 HZ.out.size
   obtain ⟨c0, c1, c2, c3⟩ := rz3.four
   have z0 := rz3.free 0
   have z1 := rz3.free 1
   have z2 := rz3.free 2
   have z3 := rz3.free 3
   have hz3 := rz3.size
   have hB3 := hB.trans (hb3.mono (by have := HZ.out.size; omega))
   clear rz3 hb3
   go_wp2
   refine bodyPost_ret (v := .agg #[.int .u64 (wd0 (beN bs) : Nat), .int .u64 (wd1 (beN bs) : Nat), .int .u64 (wd2 (beN bs) : Nat), .int .u64 (wd3 (beN bs) : Nat)]) (by simp [results, Try.results49, go_sem, c0, c1, c2, c3]) rfl ⟨rfl, ?_⟩
   repeat (first | (with_reducible exact hB3) | refine Below.setCell ?_ (by simp) _)
end Go.Proofs.Ytkfjhndofbmhoaa
namespace Go.Proofs.Ytkfjhndofbmhoaa
open Go.RowKit
set_option linter.unusedVariables false
set_option linter.unusedSimpArgs false
section
variable {P : Program} (w : World)
theorem run_equalIn_iface_int (d : Nat) {ti tn : TypeId} {ms : Array (String × TypeId)} {i : TypeInfo} {k : IntKind} (a b : Int)
  (hi : P.underlying ti = some (.interface ms)) (hn : P.underlying tn = some (.int k)) (hinfo : P.info? tn = some i) (hcomp : i.comparable = true) :
  (Op.equalIn (d + 2) ti (.iface tn (.int k a)) (.iface tn (.int k b))).run P w = .ok (a == b) w := by
 simp [Op.equalIn, run_underlying hi, run_underlying hn, typeInfo, hinfo, hcomp]
theorem run_eql_iface_int {ti tn : TypeId} {ms : Array (String × TypeId)} {i : TypeInfo} {k : IntKind} (a b : Int)
  (hi : P.underlying ti = some (.interface ms)) (hn : P.underlying tn = some (.int k)) (hinfo : P.info? tn = some i) (hcomp : i.comparable = true) :
  (binOp .eql ti (.iface tn (.int k a)) (.iface tn (.int k b))).run P w = .ok (.bool (a == b)) w := by
 simp only [binOp]
 simp [Op.equal, Op.maxDepth, run_equalIn_iface_int w 9998 a b hi hn hinfo hcomp]
end
theorem eql_code (a b : Int) (w : World) : (binOp .eql 30 (.iface 38 (.int .i64 a)) (.iface 38 (.int .i64 b))).run Try.prog w = .ok (.bool (a == b)) w := by
 have hu : Try.prog.underlying 30 = some (.interface ((match Try.prog.underlying 30 with | some (.interface ms) => ms | _ => #[]))) := by kernel_rfl
 have hn : Try.prog.underlying 38 = some (.int .i64) := by kernel_rfl
 obtain ⟨i, hi, hc⟩ : ∃ i, Try.prog.info? 38 = some i ∧ i.comparable = true := by
  have h : (Try.prog.info? 38).map (·.comparable) = some true := by kernel_rfl
  cases hq : Try.prog.info? 38 with
  | none => rw [hq] at h; simp at h
  | some i => rw [hq] at h; exact ⟨i, rfl, by simpa using h⟩
 exact run_eql_iface_int w a b hu hn hi hc
end Go.Proofs.Ytkfjhndofbmhoaa
