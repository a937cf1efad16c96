/- What the proof of PointMultiples is made of, part 32. -/
import Derived.Test.YtkfjhndofbmhoaaZPointMultiples0
namespace Go.Proofs.Ytkfjhndofbmhoaa
set_option linter.unusedVariables false
set_option linter.unusedSectionVars false
set_option linter.unusedSimpArgs false
namespace EC
open Pt
section
variable {p : Nat} [NeZero p]
/-- a number, as an element of the field -/
def ph (p : Nat) [NeZero p] (a : Nat) : Fin p := Fin.ofNat p a
theorem ph_val (a : Nat) : (ph p a).val = a % p := rfl
theorem ph_mul (a b : Nat) : ph p (a * b % p) = ph p a * ph p b := by
 apply Fin.ext
 show a * b % p % p = (a % p) * (b % p) % p
 rw [Nat.mod_mod, ← Nat.mul_mod]
theorem ph_add (a b : Nat) : ph p ((a + b) % p) = ph p a + ph p b := by
 apply Fin.ext
 show (a + b) % p % p = (a % p + b % p) % p
 rw [Nat.mod_mod, ← Nat.add_mod]
theorem ph_sub {a b : Nat} (hb : b ≤ p) : ph p ((a + p - b) % p) = ph p a - ph p b := by
 have h : ph p ((a + p - b) % p) + ph p b = ph p a := by
  apply Fin.ext
  show ((a + p - b) % p % p + b % p) % p = a % p
  rw [Nat.mod_mod, ← Nat.add_mod, show a + p - b + b = a + p by omega, Nat.add_mod_right]
 grobner
theorem ph_inj {a b : Nat} (ha : a < p) (hb : b < p) (h : ph p a = ph p b) : a = b := by
 have := congrArg Fin.val h
 rw [ph_val, ph_val, Nat.mod_eq_of_lt ha, Nat.mod_eq_of_lt hb] at this
 exact this
theorem ph_of (x : Fin p) : ph p x.val = x := Fin.ext (Nat.mod_eq_of_lt x.isLt)
theorem ph_lt {a : Nat} (ha : a < p) : (ph p a).val = a := Nat.mod_eq_of_lt ha
theorem ph0 : ph p 0 = 0 := Fin.ext (Nat.zero_mod p)
theorem ph_ne {a : Nat} (ha : a < p) (h : a ≠ 0) : ph p a ≠ 0 := fun e => h (ph_inj ha (Nat.lt_of_le_of_lt (Nat.zero_le _) ha) (e.trans ph0.symm))
end
variable {p : Nat} [NeZero p] [H : Nonempty (Fd p)]
/-- the point of three numbers -/
noncomputable def tp (t : Fin p × Fin p × Fin p) : Pt p := if t.2.2 = 0 then far else affp (t.1 * (iv t.2.2 * iv t.2.2)) (t.2.1 * ((iv t.2.2 * iv t.2.2) * iv t.2.2))
theorem tp_far (x y : Fin p) : tp (x, y, 0) = far := if_pos rfl
theorem tp_mk {x y z : Fin p} (h : z ≠ 0) : tp (x * (z * z), y * (z * z * z), z) = affp x y := by
 have hv := ivm h
 unfold tp
 rw [if_neg h]
 congr 1 <;> grobner
theorem tp_is {X Y z : Fin p} (h : z ≠ 0) : ∃ x y, X = x * (z * z) ∧ Y = y * (z * z * z) := by
 have hv := ivm h
 exact ⟨X * (iv z * iv z), Y * (iv z * iv z * iv z), by grobner, by grobner⟩
theorem tp_one (h1 : (1 : Fin p) ≠ 0) (x y : Fin p) : tp (x, y, 1) = affp x y := by
 have := tp_mk (x := x) (y := y) h1
 rw [show x * (1 * 1) = x by grobner, show y * (1 * 1 * 1) = y by grobner] at this
 exact this
/-- twice -/
def twF (t : Fin p × Fin p × Fin p) : Fin p × Fin p × Fin p :=
 let d := t.2.2 * t.2.2
 let g := t.2.1 * t.2.1
 let b := t.1 * g
 let a := (t.1 - d) * (t.1 + d) * 3
 let x3 := a * a - b * 8
 let z3 := (t.2.1 + t.2.2) * (t.2.1 + t.2.2) - g - d
 (x3, a * (b * 4 - x3) - g * g * 8, z3)
theorem nz_mul {a b : Fin p} (ha : a ≠ 0) (hb : b ≠ 0) : a * b ≠ 0 := fun e => (zd e).elim ha hb
theorem twF_spec (h20 : (2 : Fin p) ≠ 0) (t : Fin p × Fin p × Fin p) : tp (twF t) = add (tp t) (tp t) := by
 obtain ⟨X, Y, z⟩ := t
 by_cases hz : z = 0
 ·subst hz
  rw [tp_far]
  have e : twF (X, Y, (0 : Fin p)) = ((twF (X, Y, 0)).1, (twF (X, Y, 0)).2.1, 0) := by
   refine Prod.ext rfl (Prod.ext rfl ?_)
   show (Y + 0) * (Y + 0) - Y * Y - 0 * 0 = 0
   grobner
  rw [e, tp_far]
  rfl
 ·obtain ⟨x, y, rfl, rfl⟩ := tp_is hz (X := X) (Y := Y)
  rw [tp_mk hz]
  by_cases hy : y = 0
  ·subst hy
   rw [add_opp ⟨rfl, by grobner⟩]
   have e : twF (x * (z * z), 0 * (z * z * z), z) = ((twF (x * (z * z), 0 * (z * z * z), z)).1, (twF (x * (z * z), 0 * (z * z * z), z)).2.1, 0) := by
    refine Prod.ext rfl (Prod.ext rfl ?_)
    show (0 * (z * z * z) + z) * (0 * (z * z * z) + z) - (0 * (z * z * z)) * (0 * (z * z * z)) - z * z = 0
    grobner
   rw [e, tp_far]
  ·have hyy : y + y ≠ 0 := by
    have := nz_mul h20 hy
    intro e
    exact this (by grobner)
   rw [add_pt, if_neg (fun e => hyy (by have := e.2; grobner))]
   have hl : slope x y x y * (y + y) = 3 * (x * x - 1) := by
    unfold slope
    rw [if_pos ⟨rfl, rfl⟩]
    have := ivm hyy
    grobner
   generalize slope x y x y = l at hl ⊢
   have hz3 : 2 * (y * (z * z * z)) * z ≠ 0 := nz_mul (nz_mul h20 (nz_mul hy (nz_mul (nz_mul hz hz) hz))) hz
   rw [← tp_mk hz3]
   unfold twF
   dsimp only
   congr 1
   refine Prod.ext ?_ (Prod.ext ?_ ?_)
   ·show _ = _
    dsimp only
    grobner
   ·dsimp only
    grobner
   ·dsimp only
    grobner
/-- the sum -/
def suF (s t : Fin p × Fin p × Fin p) : Fin p × Fin p × Fin p :=
 if s.2.2 = 0 then t else if t.2.2 = 0 then s else
 let u := s.1 * (t.2.2 * t.2.2)
 let v := s.2.1 * ((t.2.2 * t.2.2) * t.2.2)
 let h := t.1 * (s.2.2 * s.2.2) - u
 let r := t.2.1 * ((s.2.2 * s.2.2) * s.2.2) - v
 if h = 0 then (if r = 0 then twF s else (0, 0, 0)) else
 let x := r * r - (h * h) * h - (u * (h * h)) * 2
 (x, r * (u * (h * h) - x) - v * ((h * h) * h), h * (s.2.2 * t.2.2))
theorem suF_spec {b : Fin p} (h20 : (2 : Fin p) ≠ 0) {s t : Fin p × Fin p × Fin p} (hs : On b (tp s)) (ht : On b (tp t)) : tp (suF s t) = add (tp s) (tp t) := by
 obtain ⟨X1, Y1, z1⟩ := s
 obtain ⟨X2, Y2, z2⟩ := t
 by_cases hz1 : z1 = 0
 ·subst hz1
  rw [tp_far, far_add]
  unfold suF
  rw [if_pos rfl]
 by_cases hz2 : z2 = 0
 ·subst hz2
  rw [tp_far, add_far]
  unfold suF
  rw [if_neg hz1, if_pos rfl]
 obtain ⟨x1, y1, rfl, rfl⟩ := tp_is hz1 (X := X1) (Y := Y1)
 obtain ⟨x2, y2, rfl, rfl⟩ := tp_is hz2 (X := X2) (Y := Y2)
 have hzz := nz_mul hz1 hz2
 unfold suF
 rw [if_neg hz1, if_neg hz2]
 dsimp only
 have eh : x2 * (z2 * z2) * (z1 * z1) - x1 * (z1 * z1) * (z2 * z2) = (x2 - x1) * ((z1 * z2) * (z1 * z2)) := by grobner
 have er : y2 * (z2 * z2 * z2) * (z1 * z1 * z1) - y1 * (z1 * z1 * z1) * (z2 * z2 * z2) = (y2 - y1) * ((z1 * z2) * (z1 * z2) * (z1 * z2)) := by grobner
 rw [eh, er]
 have hz6 := nz_mul hzz hzz
 by_cases hx : x2 - x1 = 0
 ·have e : x1 = x2 := by grobner
  subst e
  rw [hx, if_pos (by grobner)]
  by_cases hy : y2 - y1 = 0
  ·have e : y1 = y2 := by grobner
   subst e
   rw [hy, if_pos (by grobner), twF_spec h20, tp_mk hz1, tp_mk hz2]
  ·rw [if_neg (nz_mul hy (nz_mul hz6 hzz)), tp_far]
   rw [tp_mk hz1] at hs ⊢
   rw [tp_mk hz2] at ht ⊢
   refine (add_opp ⟨rfl, ?_⟩).symm
   simp only [On] at hs ht
   have : (y2 - y1) * (y1 + y2) = 0 := by grobner
   rcases zd this with e | e
   ·exact absurd e hy
   ·grobner
 ·rw [if_neg (nz_mul hx hz6), tp_mk hz1, tp_mk hz2]
  have hne : ¬(x1 = x2) := fun e => hx (by grobner)
  rw [add_pt, if_neg (fun e => hne e.1)]
  have hl : slope x1 y1 x2 y2 * (x2 - x1) = y2 - y1 := by
   unfold slope
   rw [if_neg (fun e => hne e.1)]
   have := ivm hx
   grobner
  generalize slope x1 y1 x2 y2 = l at hl ⊢
  have hz3 : (x2 - x1) * ((z1 * z2) * (z1 * z2)) * (z1 * z2) ≠ 0 := nz_mul (nz_mul hx hz6) hzz
  rw [← tp_mk hz3]
  congr 1
  have ey : y2 = y1 + l * (x2 - x1) := by grobner
  subst ey
  clear hl hs ht hne hx hz3 hz6 hzz hz1 hz2 eh er
  refine Prod.ext ?_ (Prod.ext ?_ ?_)
  ·dsimp only
   grobner
  ·dsimp only
   grobner
  ·rfl
/-- a multiple: k times -/
noncomputable def sm : Nat → Pt p → Pt p
 | 0, P => far
 | k + 1, P => add (sm k P) P
theorem sm_on {b : Fin p} {P : Pt p} (h : On b P) : ∀ k, On b (sm k P)
 | 0 => trivial
 | k + 1 => add_on (sm_on h k) h
end EC
namespace EC
open Pt
variable {p : Nat} [NeZero p] [H : Nonempty (Fd p)]
/-- the curve has no double point, and 2 and 3 are not 0 -/
structure Ok (b : Fin p) : Prop where
 hb : b * b ≠ 4
 h2 : (2 : Fin p) ≠ 0
 h3 : (3 : Fin p) ≠ 0
theorem Ok.assoc {b : Fin p} (h : Ok b) {P Q R : Pt p} (h1 : On b P) (h2 : On b Q) (h3 : On b R) : add (add P Q) R = add P (add Q R) := EC.assoc h.hb h.h2 h.h3 h1 h2 h3
theorem sm_add {b : Fin p} (h : Ok b) {P : Pt p} (hP : On b P) (i : Nat) : ∀ j, sm (i + j) P = add (sm i P) (sm j P)
 | 0 => (add_far _).symm
 | j + 1 => by
  show add (sm (i + j) P) P = add (sm i P) (add (sm j P) P)
  rw [sm_add h hP i j]
  exact h.assoc (sm_on hP i) (sm_on hP j) hP
theorem sm_two {b : Fin p} (h : Ok b) {P : Pt p} (hP : On b P) (i : Nat) : sm (2 * i) P = add (sm i P) (sm i P) := by
 rw [Nat.two_mul, sm_add h hP]
end EC
end Go.Proofs.Ytkfjhndofbmhoaa
