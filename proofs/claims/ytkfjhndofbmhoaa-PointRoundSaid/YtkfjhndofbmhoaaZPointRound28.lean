/- What the proof of PointRound is made of, part 28. -/
import Derived.Test.YtkfjhndofbmhoaaZPointRound0
namespace Go.Proofs.Ytkfjhndofbmhoaa
set_option linter.unusedVariables false
set_option linter.unusedSectionVars false
set_option linter.unusedSimpArgs false
namespace EC
variable {p : Nat} [NeZero p]
/-- what is not 0 has an inverse -/
structure Fd (p : Nat) [NeZero p] : Prop where
 inv : ∀ x : Fin p, x ≠ 0 → ∃ v, x * v = 1
variable [H : Nonempty (Fd p)]
theorem inv (x : Fin p) (h : x ≠ 0) : ∃ v, x * v = 1 := H.elim fun h2 => h2.inv x h
theorem neq {x y : Fin p} (h : x ≠ y) : ∃ v, (x - y) * v = 1 := inv _ (fun e => h (by grobner))
theorem nz {x : Fin p} {v : Fin p} (h1 : (1 : Fin p) ≠ 0) (h : x * v = 1) : x ≠ 0 := fun e => h1 (by grobner)
theorem can {d x y : Fin p} (hd : d ≠ 0) (h : d*x = d*y) : x = y := by
 obtain ⟨v, hv⟩ := inv d hd
 grobner
theorem zd {x y : Fin p} (h : x*y = 0) : x = 0 ∨ y = 0 := by
 by_cases hx : x = 0
 ·exact .inl hx
 ·exact .inr (can hx (by grobner))
theorem eqf {x y : Fin p} (h : ∀ w, (x - y)*w = 1 → (1 : Fin p) = 0) : x = y := by
 by_cases e : x = y
 ·exact e
 ·obtain ⟨w, hw⟩ := neq e
  have := h w hw
  grobner
open Classical in
noncomputable def iv (x : Fin p) : Fin p := if h : ∃ v, x * v = 1 then Classical.choose h else 0
theorem ivm {x : Fin p} (hx : x ≠ 0) : x * iv x = 1 := by
 unfold EC.iv
 rw [dif_pos (inv x hx)]
 exact Classical.choose_spec (inv x hx)
inductive Pt (p : Nat) | far | affp (x y : Fin p)
open Pt
/-- P, Q, -S lie on the line y = a x + k -/
structure Line (b x1 y1 x2 y2 xs ys a k : Fin p) : Prop where
 e1 : a*a = x1+x2+xs
 e2 : x1*x2+x1*xs+x2*xs = -3 - 2*a*k
 e3 : x1*x2*xs = k*k - b
 p : y1 = a*x1+k
 q : y2 = a*x2+k
 s : -ys = a*xs+k
def On (b : Fin p) : Pt p → Prop
 | far => True
 | affp x y => y*y = x*x*x - 3*x + b
def neg : Pt p → Pt p
 | far => far
 | affp x y => affp x (-y)
noncomputable def slope (x1 y1 x2 y2 : Fin p) : Fin p := if x1 = x2 ∧ y1 = y2 then 3*(x1*x1-1) * iv (y1+y1) else (y2-y1) * iv (x2-x1)
noncomputable def add : Pt p → Pt p → Pt p
 | far, Q => Q
 | P, far => P
 | affp x1 y1, affp x2 y2 => if x1 = x2 ∧ y1 = -y2 then far else
   let l := slope x1 y1 x2 y2
   let x := l*l - x1 - x2
   affp x (l*(x1-x) - y1)
theorem add_pt (x1 y1 x2 y2 : Fin p) : add (affp x1 y1) (affp x2 y2) = if x1 = x2 ∧ y1 = -y2 then far else affp (slope x1 y1 x2 y2 * slope x1 y1 x2 y2 - x1 - x2) (slope x1 y1 x2 y2 * (x1 - (slope x1 y1 x2 y2 * slope x1 y1 x2 y2 - x1 - x2)) - y1) := rfl
theorem add_opp {x1 y1 x2 y2 : Fin p} (h : x1 = x2 ∧ y1 = -y2) : add (affp x1 y1) (affp x2 y2) = far := by rw [add_pt, if_pos h]
theorem far_add (P : Pt p) : add far P = P := by cases P <;> rfl
theorem add_far (P : Pt p) : add P far = P := by cases P <;> rfl
theorem chord_line (b x1 y1 x2 y2 a xs ys : Fin p)
 (h1 : y1*y1 = x1*x1*x1 - 3*x1 + b) (h2 : y2*y2 = x2*x2*x2 - 3*x2 + b)
 (hl : a*(x2-x1) = y2-y1) (hx : x2 - x1 ≠ 0)
 (h3 : xs = a*a - x1 - x2) (h4 : ys = a*(x1-xs) - y1) : Line b x1 y1 x2 y2 xs ys a (y1 - a*x1) := by
 obtain ⟨v, hv⟩ := inv _ hx
 refine ⟨?_, ?_, ?_, ?_, ?_, ?_⟩ <;> (refine eqf fun w hw => ?_; grobner)
theorem tang_line (b x1 y1 a xs ys : Fin p)
 (h1 : y1*y1 = x1*x1*x1 - 3*x1 + b) 
 (hl : a*(y1+y1) = 3*(x1*x1-1)) (hx : y1+y1 ≠ 0)
 (h3 : xs = a*a - x1 - x1) (h4 : ys = a*(x1-xs) - y1) : Line b x1 y1 x1 y1 xs ys a (y1 - a*x1) := by
 refine ⟨?_, ?_, ?_, ?_, ?_, ?_⟩ <;> (refine eqf fun w hw => ?_; grobner)
theorem add_spec {b x1 y1 x2 y2 : Fin p} (h1 : On b (affp x1 y1)) (h2 : On b (affp x2 y2)) (hne : ¬(x1 = x2 ∧ y1 = -y2)) :
  ∃ xs ys a k, add (affp x1 y1) (affp x2 y2) = affp xs ys ∧ Line b x1 y1 x2 y2 xs ys a k := by
 simp only [On] at h1 h2
 simp only [add]
 rw [if_neg hne]
 refine ⟨_, _, slope x1 y1 x2 y2, y1 - slope x1 y1 x2 y2 * x1, rfl, ?_⟩
 by_cases h : x1 = x2 ∧ y1 = y2
 ·obtain ⟨rfl, rfl⟩ := h
  have hy : y1 + y1 ≠ 0 := fun e => hne ⟨rfl, by (refine eqf fun w hw => ?_; grobner)⟩
  exact tang_line b x1 y1 _ _ _ h1 (by unfold slope; rw [if_pos ⟨rfl, rfl⟩]; have := ivm hy; (refine eqf fun w hw => ?_; grobner)) hy rfl rfl
 ·have hx : x2 - x1 ≠ 0 := by
   intro e
   have e2 : x1 = x2 := by (refine eqf fun w hw => ?_; grobner)
   subst e2
   have : (y1 - y2) * (y1 + y2) = 0 := by (refine eqf fun w hw => ?_; grobner)
   rcases zd this with e | e
   ·exact h ⟨rfl, by (refine eqf fun w hw => ?_; grobner)⟩
   ·exact hne ⟨rfl, by (refine eqf fun w hw => ?_; grobner)⟩
  exact chord_line b x1 y1 x2 y2 _ _ _ h1 h2 (by unfold slope; rw [if_neg h]; have := ivm hx; (refine eqf fun w hw => ?_; grobner)) hx rfl rfl
theorem Line.on {b x1 y1 x2 y2 xs ys a k : Fin p} (h : Line b x1 y1 x2 y2 xs ys a k) : On b (affp xs ys) := by
 have := h.e1; have := h.e2; have := h.e3; have := h.s
 simp only [On]
 (refine eqf fun w hw => ?_; grobner)
theorem On.neg {b : Fin p} {P : Pt p} (h : On b P) : On b (neg P) := by
 cases P with
 | far => trivial
 | affp x y => simp only [On, EC.neg] at h ⊢; (refine eqf fun w hw => ?_; grobner)
theorem neg_neg (P : Pt p) : neg (neg P) = P := by
 cases P with
 | far => rfl
 | affp x y => simp only [neg]; congr 1; (refine eqf fun w hw => ?_; grobner)
theorem add_on {b : Fin p} {P Q : Pt p} (h1 : On b P) (h2 : On b Q) : On b (add P Q) := by
 cases P with
 | far => rw [far_add]; exact h2
 | affp x1 y1 =>
  cases Q with
  | far => exact h1
  | affp x2 y2 =>
   by_cases h : x1 = x2 ∧ y1 = -y2
   ·simp only [add]; rw [if_pos h]; trivial
   ·obtain ⟨xs, ys, a, k, e, hL⟩ := add_spec h1 h2 h
    rw [e]
    exact hL.on
theorem add_neg (P : Pt p) : add P (neg P) = far := by
 cases P with
 | far => rfl
 | affp x y =>
  show add (affp x y) (affp x (-y)) = far
  exact add_opp ⟨rfl, by (refine eqf fun w hw => ?_; grobner)⟩
theorem add_eq_far {P Q : Pt p} (h : add P Q = far) : P = neg Q := by
 cases P with
 | far => rw [far_add] at h; subst h; rfl
 | affp x1 y1 =>
  cases Q with
  | far => cases h
  | affp x2 y2 =>
   simp only [add] at h
   split at h
   ·rename_i h2
    obtain ⟨rfl, rfl⟩ := h2
    rfl
   ·cases h
/-- a line through two points of the curve that are not each other's negative is their sum's -/
theorem line_add {b x1 y1 x2 y2 xs ys a k : Fin p} (h1 : On b (affp x1 y1)) (h2 : On b (affp x2 y2)) (hne : ¬(x1 = x2 ∧ y1 = -y2)) (hL : Line b x1 y1 x2 y2 xs ys a k) : add (affp x1 y1) (affp x2 y2) = affp xs ys := by
 obtain ⟨xs', ys', a', k', e, hL'⟩ := add_spec h1 h2 hne
 rw [e]
 have a1 := hL.e1; have a2 := hL.e2; have a3 := hL.p; have a4 := hL.q; have a5 := hL.s
 have b1 := hL'.e1; have b2 := hL'.e2; have b3 := hL'.p; have b4 := hL'.q; have b5 := hL'.s
 have ha : a' = a := by
  by_cases hx : x1 = x2
  ·subst hx
   have hy : y1 = y2 := by (refine eqf fun w hw => ?_; grobner)
   have hy2 : y1 + y1 ≠ 0 := fun e => hne ⟨rfl, by (refine eqf fun w hw => ?_; grobner)⟩
   have c1 : a*(y1+y1) = 3*(x1*x1-1) := by (refine eqf fun w hw => ?_; grobner)
   have c2 : a'*(y1+y1) = 3*(x1*x1-1) := by (refine eqf fun w hw => ?_; grobner)
   obtain ⟨v, hv⟩ := inv _ hy2
   (refine eqf fun w hw => ?_; grobner)
  ·obtain ⟨v, hv⟩ := neq hx
   (refine eqf fun w hw => ?_; grobner)
 subst ha
 have hk : k' = k := by (refine eqf fun w hw => ?_; grobner)
 subst hk
 congr 1 <;> (refine eqf fun w hw => ?_; grobner)
theorem add_comm {b : Fin p} {P Q : Pt p} (h1 : On b P) (h2 : On b Q) : add P Q = add Q P := by
 cases P with
 | far => rw [far_add, add_far]
 | affp x1 y1 =>
  cases Q with
  | far => rw [far_add, add_far]
  | affp x2 y2 =>
   by_cases h : x1 = x2 ∧ y1 = -y2
   ·have h' : x2 = x1 ∧ y2 = -y1 := ⟨h.1.symm, by have := h.2; (refine eqf fun w hw => ?_; grobner)⟩
    simp only [add]
    rw [if_pos h, if_pos h']
   ·have h' : ¬(x2 = x1 ∧ y2 = -y1) := fun e => h ⟨e.1.symm, by have := e.2; (refine eqf fun w hw => ?_; grobner)⟩
    obtain ⟨xs, ys, a, k, e, hL⟩ := add_spec h1 h2 h
    rw [e]
    refine (line_add h2 h1 h' (a := a) (k := k) ⟨?_, ?_, ?_, hL.q, hL.p, hL.s⟩).symm
    ·have := hL.e1; (refine eqf fun w hw => ?_; grobner)
    ·have := hL.e2; (refine eqf fun w hw => ?_; grobner)
    ·have := hL.e3; (refine eqf fun w hw => ?_; grobner)
theorem neg_add {b : Fin p} {P Q : Pt p} (h1 : On b P) (h2 : On b Q) : neg (add P Q) = add (neg P) (neg Q) := by
 cases P with
 | far => rw [far_add]; show neg Q = add far (neg Q); rw [far_add]
 | affp x1 y1 =>
  cases Q with
  | far => rfl
  | affp x2 y2 =>
   by_cases h : x1 = x2 ∧ y1 = -y2
   ·have h' : x1 = x2 ∧ -y1 = - -y2 := ⟨h.1, by have := h.2; (refine eqf fun w hw => ?_; grobner)⟩
    simp only [add, neg]
    rw [if_pos h, if_pos h']
   ·have h' : ¬(x1 = x2 ∧ -y1 = - -y2) := fun e => h ⟨e.1, by have := e.2; (refine eqf fun w hw => ?_; grobner)⟩
    obtain ⟨xs, ys, a, k, e, hL⟩ := add_spec h1 h2 h
    rw [e]
    refine (line_add h1.neg h2.neg h' (xs := xs) (ys := -ys) (a := -a) (k := -k) ⟨?_, ?_, ?_, ?_, ?_, ?_⟩).symm
    ·have := hL.e1; (refine eqf fun w hw => ?_; grobner)
    ·have := hL.e2; (refine eqf fun w hw => ?_; grobner)
    ·have := hL.e3; (refine eqf fun w hw => ?_; grobner)
    ·have := hL.p; (refine eqf fun w hw => ?_; grobner)
    ·have := hL.q; (refine eqf fun w hw => ?_; grobner)
    ·have := hL.s; (refine eqf fun w hw => ?_; grobner)
/-- (P + Q) - Q = P, on a curve without a double point -/
theorem cancel {b : Fin p} (hb : b*b ≠ 4) (h20 : (2 : Fin p) ≠ 0) (h30 : (3 : Fin p) ≠ 0) {P Q : Pt p} (h1 : On b P) (h2 : On b Q) : add (add P Q) (neg Q) = P := by
 cases P with
 | far => rw [far_add]; exact add_neg Q
 | affp x1 y1 =>
  cases Q with
  | far => rfl
  | affp x2 y2 =>
   by_cases h : x1 = x2 ∧ y1 = -y2
   ·obtain ⟨rfl, rfl⟩ := h
    rw [add_opp ⟨rfl, rfl⟩, far_add]
    rfl
   ·obtain ⟨xs, ys, a, k, e, hL⟩ := add_spec h1 h2 h
    rw [e]
    have hS := hL.on
    have a1 := hL.e1; have a2 := hL.e2; have a3 := hL.e3; have a4 := hL.q; have a5 := hL.s; have a6 := hL.p
    have hne : ¬(xs = x2 ∧ ys = - -y2) := by
     rintro ⟨rfl, hy⟩
     have hy2 : y2 = 0 := by (refine eqf fun w hw => ?_; grobner)
     have c1 : 3*(xs*xs-1) = 2*a*y2 := by (refine eqf fun w hw => ?_; grobner)
     have c2 : y2*y2 = xs*xs*xs - 3*xs + b := h2
     rw [hy2] at c1 c2
     have c3 : xs*xs*xs - 3*xs + b = 0 := by (refine eqf fun w hw => ?_; grobner)
     have c4 : 3*(xs*xs-1) = 0 := by (refine eqf fun w hw => ?_; grobner)
     have c5 : xs*xs = 1 := by (refine eqf fun w hw => ?_; grobner)
     have c6 : b = 2*xs := by (refine eqf fun w hw => ?_; grobner)
     exact hb (by (refine eqf fun w hw => ?_; grobner))
    refine line_add hS h2.neg hne (a := -a) (k := -k) ⟨?_, ?_, ?_, ?_, ?_, ?_⟩ <;> (refine eqf fun w hw => ?_; grobner)
section
variable {b x1 y1 x2 y2 x3 y3 xs ys xt yt xu yu xv yv a k l m c n d o : Fin p}
/-- the function A vanishes at P, Q, R, -T -/
theorem A_P (h1 : Line b x1 y1 x2 y2 xs ys a k) (h2 : Line b xs ys x3 y3 xt yt l m) :
  x1*x1 + (a*l+xs)*x1 - (a+l)*y1 + (-3 + a*m + l*k + (a*l+xs)*xs) = 0 := by
 have := h1.e1; have := h1.e2; have := h1.p; have := h1.s; have := h2.p
 (refine eqf fun w hw => ?_; grobner)
theorem A_Q (h1 : Line b x1 y1 x2 y2 xs ys a k) (h2 : Line b xs ys x3 y3 xt yt l m) :
  x2*x2 + (a*l+xs)*x2 - (a+l)*y2 + (-3 + a*m + l*k + (a*l+xs)*xs) = 0 := by
 have := h1.e1; have := h1.e2; have := h1.q; have := h1.s; have := h2.p
 (refine eqf fun w hw => ?_; grobner)
theorem A_R (h1 : Line b x1 y1 x2 y2 xs ys a k) (h2 : Line b xs ys x3 y3 xt yt l m) :
  x3*x3 + (a*l+xs)*x3 - (a+l)*y3 + (-3 + a*m + l*k + (a*l+xs)*xs) = 0 := by
 have := h2.e1; have := h2.e2; have := h1.s; have := h2.p; have := h2.q; have := h1.e1; have := h1.e2
 (refine eqf fun w hw => ?_; grobner)
theorem A_T (h1 : Line b x1 y1 x2 y2 xs ys a k) (h2 : Line b xs ys x3 y3 xt yt l m) :
  xt*xt + (a*l+xs)*xt + (a+l)*yt + (-3 + a*m + l*k + (a*l+xs)*xs) = 0 := by
 have := h2.e1; have := h2.e2; have := h1.s; have := h2.p; have := h2.s; have := h1.e1; have := h1.e2
 (refine eqf fun w hw => ?_; grobner)
theorem A_sum (h1 : Line b x1 y1 x2 y2 xs ys a k) (h2 : Line b xs ys x3 y3 xt yt l m) :
  xt = (a+l)*(a+l) - 2*(a*l+xs) - x1 - x2 - x3 := by
 have := h1.e1; have := h2.e1
 (refine eqf fun w hw => ?_; grobner)
/-- both functions are the same: so are their last zeros -/
theorem same_last {al be ga : Fin p} (A1 : xt*xt + al*xt + be*yt + ga = 0) (B1 : xv*xv + al*xv + be*yv + ga = 0) (s1 : xt = be*be - 2*al - x1 - x2 - x3) (s2 : xv = be*be - 2*al - x1 - x2 - x3) (hbe : be ≠ 0) : xt = xv ∧ yt = yv := by
 have e : xt = xv := by (refine eqf fun w hw => ?_; grobner)
 subst e
 exact ⟨rfl, by (refine eqf fun w hw => ?_; grobner)⟩
end
/-- on one line: three points of it with different x are the line's own -/
theorem coll {b x1 y1 x2 y2 xs ys x3 y3 a k : Fin p} (hL : Line b x1 y1 x2 y2 xs ys a k) (h3 : y3*y3 = x3*x3*x3 - 3*x3 + b) (h : y3 = a*x3 + k) (n1 : x3 ≠ x1) (n2 : x3 ≠ x2) : x3 = xs ∧ y3 = -ys := by
 have := hL.e1; have := hL.e2; have := hL.e3; have := hL.s
 have e : (x3 - x1)*((x3 - x2)*(x3 - xs)) = 0 := by (refine eqf fun w hw => ?_; grobner)
 obtain ⟨v1, w1⟩ := neq n1
 obtain ⟨v2, w2⟩ := neq n2
 have e2 : x3 = xs := by (refine eqf fun w hw => ?_; grobner)
 subst e2
 exact ⟨rfl, by (refine eqf fun w hw => ?_; grobner)⟩
/-- associativity, the x all different -/
theorem assoc_diff {b x1 y1 x2 y2 x3 y3 xs ys xt yt xu yu xv yv a k l m c n d o : Fin p}
  (o3 : On b (affp x3 y3)) (hS : Line b x1 y1 x2 y2 xs ys a k) (hT : Line b xs ys x3 y3 xt yt l m) (hU : Line b x2 y2 x3 y3 xu yu c n) (hV : Line b x1 y1 xu yu xv yv d o)
  (n12 : x1 ≠ x2) (n13 : x1 ≠ x3) (n23 : x2 ≠ x3) (hne : ¬(xs = x3 ∧ ys = -y3)) : xt = xv ∧ yt = yv := by
 have a1 := A_P hS hT; have a2 := A_Q hS hT; have a3 := A_R hS hT; have a4 := A_T hS hT; have a5 := A_sum hS hT
 have hV' : Line b xu yu x1 y1 xv yv d o := ⟨by have := hV.e1; (refine eqf fun w hw => ?_; grobner), by have := hV.e2; (refine eqf fun w hw => ?_; grobner), by have := hV.e3; (refine eqf fun w hw => ?_; grobner), hV.q, hV.p, hV.s⟩
 have b1 := A_R hU hV'; have b2 := A_P hU hV'; have b3 := A_Q hU hV'; have b4 := A_T hU hV'; have b5 := A_sum hU hV'
 have p1 := hS.p; have p2 := hS.q
 generalize hal : a*l+xs = al at *
 generalize hbe : a+l = be at *
 generalize hga : -3 + a*m + l*k + al*xs = ga at *
 generalize hal2 : c*d+xu = al2 at *
 generalize hbe2 : c+d = be2 at *
 generalize hga2 : -3 + c*o + d*n + al2*xu = ga2 at *
 clear hal hbe hga hal2 hbe2 hga2
 have e1 : (al - al2)*x1 - (be - be2)*y1 + (ga - ga2) = 0 := by (refine eqf fun w hw => ?_; grobner)
 have e2 : (al - al2)*x2 - (be - be2)*y2 + (ga - ga2) = 0 := by (refine eqf fun w hw => ?_; grobner)
 have e3 : (al - al2)*x3 - (be - be2)*y3 + (ga - ga2) = 0 := by (refine eqf fun w hw => ?_; grobner)
 have hb : be = be2 := by
  by_cases hb : be = be2
  ·exact hb
  ·exfalso
   obtain ⟨v, hv⟩ := neq n12
   obtain ⟨v2, hv2⟩ := neq hb
   have q1 : (be - be2)*a = al - al2 := by (refine eqf fun w hw => ?_; grobner)
   have q2 : y3 = a*x3 + k := by (refine eqf fun w hw => ?_; grobner)
   have q3 := coll hS o3 q2 (fun e => n13 e.symm) (fun e => n23 e.symm)
   exact hne ⟨q3.1.symm, by have := q3.2; (refine eqf fun w hw => ?_; grobner)⟩
 subst hb
 obtain ⟨v, hv⟩ := neq n12
 have ha : al = al2 := by (refine eqf fun w hw => ?_; grobner)
 subst ha
 have hg : ga = ga2 := by (refine eqf fun w hw => ?_; grobner)
 subst hg
 have hbe : be ≠ 0 := by
  intro h0
  subst h0
  have q : (x1 - x2) * (x1 + x2 + al) = 0 := by (refine eqf fun w hw => ?_; grobner)
  have q' : (x1 - x3) * (x1 + x3 + al) = 0 := by (refine eqf fun w hw => ?_; grobner)
  rcases zd q with e | e
  ·exact n12 (by (refine eqf fun w hw => ?_; grobner))
  ·rcases zd q' with f | f
   ·exact n13 (by (refine eqf fun w hw => ?_; grobner))
   ·exact n23 (by (refine eqf fun w hw => ?_; grobner))
 exact same_last (x1 := x1) (x2 := x2) (x3 := x3) a4 b4 (by (refine eqf fun w hw => ?_; grobner)) (by (refine eqf fun w hw => ?_; grobner)) hbe
/-- associativity, P = Q -/
theorem assoc_twice {b x1 y1 x3 y3 xs ys xt yt xu yu xv yv a k l m c n d o : Fin p} (h20 : (2 : Fin p) ≠ 0)
  (o1 : On b (affp x1 y1)) (o3 : On b (affp x3 y3)) (hS : Line b x1 y1 x1 y1 xs ys a k) (hT : Line b xs ys x3 y3 xt yt l m) (hU : Line b x1 y1 x3 y3 xu yu c n) (hV : Line b x1 y1 xu yu xv yv d o)
  (n13 : x1 ≠ x3) (n1u : x1 ≠ xu) (hy : y1 + y1 ≠ 0) (hne : ¬(xs = x3 ∧ ys = -y3)) : xt = xv ∧ yt = yv := by
 have a1 := A_P hS hT; have a3 := A_R hS hT; have a4 := A_T hS hT; have a5 := A_sum hS hT
 have hV' : Line b xu yu x1 y1 xv yv d o := ⟨by have := hV.e1; (refine eqf fun w hw => ?_; grobner), by have := hV.e2; (refine eqf fun w hw => ?_; grobner), by have := hV.e3; (refine eqf fun w hw => ?_; grobner), hV.q, hV.p, hV.s⟩
 have b1 := A_R hU hV'; have b3 := A_Q hU hV'; have b4 := A_T hU hV'; have b5 := A_sum hU hV'
 have p1 := hS.p
 have da : 2*x1 + (a*l+xs) - (a+l)*a = 0 := by have := hS.e1; (refine eqf fun w hw => ?_; grobner)
 have ta : a*(y1+y1) = 3*(x1*x1-1) := by have := hS.e1; have := hS.e2; have := hS.p; (refine eqf fun w hw => ?_; grobner)
 have db : 2*x1 + (c*d+xu) - (c+d)*a = 0 := by
  have g1 : (y1+y1)*(a - c) = (x1-x3)*(x1-xu) := by have := hU.e1; have := hU.e2; have := hU.p; (refine eqf fun w hw => ?_; grobner)
  have g2 : y1+y1 = (c+d)*(x1-xu) := by have := hU.p; have := hU.s; have := hV.p; have := hV.q; (refine eqf fun w hw => ?_; grobner)
  have g3 : (x1-xu)*((c+d)*(a-c) - (x1-x3)) = 0 := by (refine eqf fun w hw => ?_; grobner)
  have g4 : (c+d)*(a-c) = x1-x3 := by
   rcases zd g3 with e | e
   ·exact absurd (by (refine eqf fun w hw => ?_; grobner)) n1u
   ·(refine eqf fun w hw => ?_; grobner)
  have := hU.e1
  (refine eqf fun w hw => ?_; grobner)
 generalize hal : a*l+xs = al at *
 generalize hbe : a+l = be at *
 generalize hga : -3 + a*m + l*k + al*xs = ga at *
 generalize hal2 : c*d+xu = al2 at *
 generalize hbe2 : c+d = be2 at *
 generalize hga2 : -3 + c*o + d*n + al2*xu = ga2 at *
 clear hal hbe hga hal2 hbe2 hga2
 have e1 : (al - al2)*x1 - (be - be2)*y1 + (ga - ga2) = 0 := by (refine eqf fun w hw => ?_; grobner)
 have e3 : (al - al2)*x3 - (be - be2)*y3 + (ga - ga2) = 0 := by (refine eqf fun w hw => ?_; grobner)
 have e4 : (al - al2) = (be - be2)*a := by (refine eqf fun w hw => ?_; grobner)
 have hb : be = be2 := by
  by_cases hb : be = be2
  ·exact hb
  ·exfalso
   obtain ⟨v2, hv2⟩ := neq hb
   have q2 : y3 = a*x3 + k := by (refine eqf fun w hw => ?_; grobner)
   have q3 := coll hS o3 q2 (fun e => n13 e.symm) (fun e => n13 e.symm)
   exact hne ⟨q3.1.symm, by have := q3.2; (refine eqf fun w hw => ?_; grobner)⟩
 subst hb
 have ha : al = al2 := by (refine eqf fun w hw => ?_; grobner)
 subst ha
 have hg : ga = ga2 := by (refine eqf fun w hw => ?_; grobner)
 subst hg
 have hbe : be ≠ 0 := by
  intro h0
  subst h0
  have q : (x1 - x3) * (x1 + x3 + al) = 0 := by (refine eqf fun w hw => ?_; grobner)
  rcases zd q with e | e
  ·exact n13 (by (refine eqf fun w hw => ?_; grobner))
  ·exact n13 (by (refine eqf fun w hw => ?_; grobner))
 exact same_last (x1 := x1) (x2 := x1) (x3 := x3) a4 b4 (by (refine eqf fun w hw => ?_; grobner)) (by (refine eqf fun w hw => ?_; grobner)) hbe
theorem not_opp {x1 y1 x2 y2 : Fin p} (h : add (affp x1 y1) (affp x2 y2) ≠ far) : ¬(x1 = x2 ∧ y1 = -y2) := fun e => h (add_opp e)
/-- the group's law -/
theorem assoc {b : Fin p} (hb : b*b ≠ 4) (h20 : (2 : Fin p) ≠ 0) (h30 : (3 : Fin p) ≠ 0) {P Q R : Pt p} (h1 : On b P) (h2 : On b Q) (h3 : On b R) : add (add P Q) R = add P (add Q R) := by
 have can := fun {P Q : Pt p} (h1 : On b P) (h2 : On b Q) => cancel hb h20 h30 h1 h2
 -- far ones
 by_cases f1 : P = far
 ·subst f1; rw [far_add, far_add]
 by_cases f2 : Q = far
 ·subst f2; rw [far_add, add_far]
 by_cases f3 : R = far
 ·subst f3; rw [add_far, add_far]
 -- P + Q = far
 by_cases g1 : add P Q = far
 ·rw [g1, far_add]
  have e := add_eq_far g1
  subst e
  rw [add_comm h2.neg (add_on h2 h3), add_comm h2 h3, can h3 h2]
 by_cases g2 : add Q R = far
 ·rw [g2, add_far]
  have e : R = neg Q := by rw [add_comm h2 h3] at g2; exact add_eq_far g2
  subst e
  exact can h1 h2
 -- P = R, P = -R
 by_cases g3 : P = R
 ·subst g3
  rw [add_comm (add_on h1 h2) h1, add_comm h2 h1]
 by_cases g4 : R = neg P
 ·subst g4
  rw [add_comm h1 h2, can h2 h1, add_comm h1 (add_on h2 h1.neg)]
  have := can h2 h1.neg
  rw [neg_neg] at this
  exact this.symm
 -- S + R = far, P + U = far
 by_cases g5 : add (add P Q) R = far
 ·have e := add_eq_far g5
  have e2 : R = add (neg P) (neg Q) := by rw [← neg_add h1 h2, e, neg_neg]
  rw [g5, e2]
  have e3 : add Q (add (neg P) (neg Q)) = neg P := by
   rw [add_comm h2 (add_on h1.neg h2.neg)]
   have := can h1.neg h2.neg
   rw [neg_neg] at this
   exact this
  rw [e3, add_neg]
 by_cases g6 : add P (add Q R) = far
 ·have e := add_eq_far g6
  have e2 : P = add (neg Q) (neg R) := by rw [e, neg_add h2 h3]
  rw [g6, e2]
  have e3 : add (add (neg Q) (neg R)) Q = neg R := by
   rw [add_comm h2.neg h3.neg]
   have := can h3.neg h2.neg
   rw [neg_neg] at this
   exact this
  rw [e3, add_comm h3.neg h3, add_neg]
 cases P with
 | far => exact absurd rfl f1
 | affp x1 y1 =>
 cases Q with
 | far => exact absurd rfl f2
 | affp x2 y2 =>
 cases R with
 | far => exact absurd rfl f3
 | affp x3 y3 =>
 obtain ⟨xs, ys, a, k, eS, hS⟩ := add_spec h1 h2 (not_opp g1)
 obtain ⟨xu, yu, c, n, eU, hU⟩ := add_spec h2 h3 (not_opp g2)
 rw [eS] at g5 ⊢
 rw [eU] at g6 ⊢
 obtain ⟨xt, yt, l, m, eT, hT⟩ := add_spec hS.on h3 (not_opp g5)
 obtain ⟨xv, yv, d, o, eV, hV⟩ := add_spec h1 hU.on (not_opp g6)
 rw [eT, eV]
 have hy : ∀ {x y x' y' : Fin p}, On b (affp x y) → On b (affp x' y') → x = x' → y = y' ∨ y = -y' := by
  intro x y x' y' h h' e
  subst e
  simp only [On] at h h'
  have : (y - y')*(y + y') = 0 := by (refine eqf fun w hw => ?_; grobner)
  rcases zd this with e | e
  ·exact .inl (by (refine eqf fun w hw => ?_; grobner))
  ·exact .inr (by (refine eqf fun w hw => ?_; grobner))
 have n13 : x1 ≠ x3 := by
  intro e
  subst e
  rcases hy h1 h3 rfl with e | e
  ·exact g3 (by rw [e])
  ·exact g4 (by simp only [neg]; congr 1; (refine eqf fun w hw => ?_; grobner))
 have fin : xt = xv ∧ yt = yv := by
  by_cases n12 : x1 = x2
  ·-- P = Q
   subst n12
   have e : y1 = y2 := by
    rcases hy h1 h2 rfl with e | e
    ·exact e
    ·exact absurd ⟨rfl, e⟩ (not_opp g1)
   subst e
   have hyy : y1 + y1 ≠ 0 := fun e => not_opp g1 ⟨rfl, by (refine eqf fun w hw => ?_; grobner)⟩
   have n1u : x1 ≠ xu := by
    intro e
    subst e
    rcases hy h1 hU.on rfl with e | e
    ·-- Q + R = Q
     subst e
     have := can h3 h1
     rw [add_comm h3 h1, eU, add_neg] at this
     exact f3 this.symm
    ·exact not_opp g6 ⟨rfl, e⟩
   exact assoc_twice h20 h1 h3 hS hT hU hV n13 n1u hyy (not_opp g5)
  ·by_cases n23 : x2 = x3
   ·-- Q = R
    subst n23
    have e : y2 = y3 := by
     rcases hy h2 h3 rfl with e | e
     ·exact e
     ·exact absurd ⟨rfl, e⟩ (not_opp g2)
    subst e
    have hyy : y2 + y2 ≠ 0 := fun e => not_opp g2 ⟨rfl, by (refine eqf fun w hw => ?_; grobner)⟩
    have nus : x2 ≠ xs := by
     intro e
     subst e
     rcases hy h2 hS.on rfl with e | e
     ·subst e
      have := can h1 h2
      rw [eS, add_neg] at this
      exact f1 this.symm
     ·exact not_opp g5 ⟨rfl, by (refine eqf fun w hw => ?_; grobner)⟩
    have sw : ∀ {g q g' q' r s u v : Fin p}, Line b g q g' q' r s u v → Line b g' q' g q r s u v := fun h => ⟨by have := h.e1; (refine eqf fun w hw => ?_; grobner), by have := h.e2; (refine eqf fun w hw => ?_; grobner), by have := h.e3; (refine eqf fun w hw => ?_; grobner), h.q, h.p, h.s⟩
    have := assoc_twice h20 h2 h1 hU (sw hV) (sw hS) (sw hT) (fun e => n12 e.symm) nus hyy (fun e => not_opp g6 ⟨e.1.symm, by have := e.2; (refine eqf fun w hw => ?_; grobner)⟩)
    exact ⟨this.1.symm, this.2.symm⟩
   ·exact assoc_diff h3 hS hT hU hV n12 n13 n23 (not_opp g5)
 rw [fin.1, fin.2]
end EC
end Go.Proofs.Ytkfjhndofbmhoaa
namespace Go.Proofs.Ytkfjhndofbmhoaa
set_option linter.unusedVariables false
set_option linter.unusedSectionVars false
set_option linter.unusedSimpArgs false
namespace EC
open Pt
section
variable {p : Nat} [NeZero p]
/-- a number, as an element of the field -/
def ph (p : Nat) [NeZero p] (a : Nat) : Fin p := Fin.ofNat p a
theorem ph_val (a : Nat) : (ph p a).val = a % p := rfl
theorem ph_mul (a b : Nat) : ph p (a * b % p) = ph p a * ph p b := by
 apply Fin.ext
 show a * b % p % p = (a % p) * (b % p) % p
 rw [Nat.mod_mod, ← Nat.mul_mod]
theorem ph_add (a b : Nat) : ph p ((a + b) % p) = ph p a + ph p b := by
 apply Fin.ext
 show (a + b) % p % p = (a % p + b % p) % p
 rw [Nat.mod_mod, ← Nat.add_mod]
theorem ph_sub {a b : Nat} (hb : b ≤ p) : ph p ((a + p - b) % p) = ph p a - ph p b := by
 have h : ph p ((a + p - b) % p) + ph p b = ph p a := by
  apply Fin.ext
  show ((a + p - b) % p % p + b % p) % p = a % p
  rw [Nat.mod_mod, ← Nat.add_mod, show a + p - b + b = a + p by omega, Nat.add_mod_right]
 grobner
theorem ph_inj {a b : Nat} (ha : a < p) (hb : b < p) (h : ph p a = ph p b) : a = b := by
 have := congrArg Fin.val h
 rw [ph_val, ph_val, Nat.mod_eq_of_lt ha, Nat.mod_eq_of_lt hb] at this
 exact this
theorem ph_of (x : Fin p) : ph p x.val = x := Fin.ext (Nat.mod_eq_of_lt x.isLt)
theorem ph_lt {a : Nat} (ha : a < p) : (ph p a).val = a := Nat.mod_eq_of_lt ha
theorem ph0 : ph p 0 = 0 := Fin.ext (Nat.zero_mod p)
theorem ph_ne {a : Nat} (ha : a < p) (h : a ≠ 0) : ph p a ≠ 0 := fun e => h (ph_inj ha (Nat.lt_of_le_of_lt (Nat.zero_le _) ha) (e.trans ph0.symm))
end
variable {p : Nat} [NeZero p] [H : Nonempty (Fd p)]
/-- the point of three numbers -/
noncomputable def tp (t : Fin p × Fin p × Fin p) : Pt p := if t.2.2 = 0 then far else affp (t.1 * (iv t.2.2 * iv t.2.2)) (t.2.1 * ((iv t.2.2 * iv t.2.2) * iv t.2.2))
theorem tp_far (x y : Fin p) : tp (x, y, 0) = far := if_pos rfl
theorem tp_mk {x y z : Fin p} (h : z ≠ 0) : tp (x * (z * z), y * (z * z * z), z) = affp x y := by
 have hv := ivm h
 unfold tp
 rw [if_neg h]
 congr 1 <;> grobner
theorem tp_is {X Y z : Fin p} (h : z ≠ 0) : ∃ x y, X = x * (z * z) ∧ Y = y * (z * z * z) := by
 have hv := ivm h
 exact ⟨X * (iv z * iv z), Y * (iv z * iv z * iv z), by grobner, by grobner⟩
theorem tp_one (h1 : (1 : Fin p) ≠ 0) (x y : Fin p) : tp (x, y, 1) = affp x y := by
 have := tp_mk (x := x) (y := y) h1
 rw [show x * (1 * 1) = x by grobner, show y * (1 * 1 * 1) = y by grobner] at this
 exact this
/-- twice -/
def twF (t : Fin p × Fin p × Fin p) : Fin p × Fin p × Fin p :=
 let d := t.2.2 * t.2.2
 let g := t.2.1 * t.2.1
 let b := t.1 * g
 let a := (t.1 - d) * (t.1 + d) * 3
 let x3 := a * a - b * 8
 let z3 := (t.2.1 + t.2.2) * (t.2.1 + t.2.2) - g - d
 (x3, a * (b * 4 - x3) - g * g * 8, z3)
theorem nz_mul {a b : Fin p} (ha : a ≠ 0) (hb : b ≠ 0) : a * b ≠ 0 := fun e => (zd e).elim ha hb
theorem twF_spec (h20 : (2 : Fin p) ≠ 0) (t : Fin p × Fin p × Fin p) : tp (twF t) = add (tp t) (tp t) := by
 obtain ⟨X, Y, z⟩ := t
 by_cases hz : z = 0
 ·subst hz
  rw [tp_far]
  have e : twF (X, Y, (0 : Fin p)) = ((twF (X, Y, 0)).1, (twF (X, Y, 0)).2.1, 0) := by
   refine Prod.ext rfl (Prod.ext rfl ?_)
   show (Y + 0) * (Y + 0) - Y * Y - 0 * 0 = 0
   grobner
  rw [e, tp_far]
  rfl
 ·obtain ⟨x, y, rfl, rfl⟩ := tp_is hz (X := X) (Y := Y)
  rw [tp_mk hz]
  by_cases hy : y = 0
  ·subst hy
   rw [add_opp ⟨rfl, by grobner⟩]
   have e : twF (x * (z * z), 0 * (z * z * z), z) = ((twF (x * (z * z), 0 * (z * z * z), z)).1, (twF (x * (z * z), 0 * (z * z * z), z)).2.1, 0) := by
    refine Prod.ext rfl (Prod.ext rfl ?_)
    show (0 * (z * z * z) + z) * (0 * (z * z * z) + z) - (0 * (z * z * z)) * (0 * (z * z * z)) - z * z = 0
    grobner
   rw [e, tp_far]
  ·have hyy : y + y ≠ 0 := by
    have := nz_mul h20 hy
    intro e
    exact this (by grobner)
   rw [add_pt, if_neg (fun e => hyy (by have := e.2; grobner))]
   have hl : slope x y x y * (y + y) = 3 * (x * x - 1) := by
    unfold slope
    rw [if_pos ⟨rfl, rfl⟩]
    have := ivm hyy
    grobner
   generalize slope x y x y = l at hl ⊢
   have hz3 : 2 * (y * (z * z * z)) * z ≠ 0 := nz_mul (nz_mul h20 (nz_mul hy (nz_mul (nz_mul hz hz) hz))) hz
   rw [← tp_mk hz3]
   unfold twF
   dsimp only
   congr 1
   refine Prod.ext ?_ (Prod.ext ?_ ?_)
   ·show _ = _
    dsimp only
    grobner
   ·dsimp only
    grobner
   ·dsimp only
    grobner
/-- the sum -/
def suF (s t : Fin p × Fin p × Fin p) : Fin p × Fin p × Fin p :=
 if s.2.2 = 0 then t else if t.2.2 = 0 then s else
 let u := s.1 * (t.2.2 * t.2.2)
 let v := s.2.1 * ((t.2.2 * t.2.2) * t.2.2)
 let h := t.1 * (s.2.2 * s.2.2) - u
 let r := t.2.1 * ((s.2.2 * s.2.2) * s.2.2) - v
 if h = 0 then (if r = 0 then twF s else (0, 0, 0)) else
 let x := r * r - (h * h) * h - (u * (h * h)) * 2
 (x, r * (u * (h * h) - x) - v * ((h * h) * h), h * (s.2.2 * t.2.2))
theorem suF_spec {b : Fin p} (h20 : (2 : Fin p) ≠ 0) {s t : Fin p × Fin p × Fin p} (hs : On b (tp s)) (ht : On b (tp t)) : tp (suF s t) = add (tp s) (tp t) := by
 obtain ⟨X1, Y1, z1⟩ := s
 obtain ⟨X2, Y2, z2⟩ := t
 by_cases hz1 : z1 = 0
 ·subst hz1
  rw [tp_far, far_add]
  unfold suF
  rw [if_pos rfl]
 by_cases hz2 : z2 = 0
 ·subst hz2
  rw [tp_far, add_far]
  unfold suF
  rw [if_neg hz1, if_pos rfl]
 obtain ⟨x1, y1, rfl, rfl⟩ := tp_is hz1 (X := X1) (Y := Y1)
 obtain ⟨x2, y2, rfl, rfl⟩ := tp_is hz2 (X := X2) (Y := Y2)
 have hzz := nz_mul hz1 hz2
 unfold suF
 rw [if_neg hz1, if_neg hz2]
 dsimp only
 have eh : x2 * (z2 * z2) * (z1 * z1) - x1 * (z1 * z1) * (z2 * z2) = (x2 - x1) * ((z1 * z2) * (z1 * z2)) := by grobner
 have er : y2 * (z2 * z2 * z2) * (z1 * z1 * z1) - y1 * (z1 * z1 * z1) * (z2 * z2 * z2) = (y2 - y1) * ((z1 * z2) * (z1 * z2) * (z1 * z2)) := by grobner
 rw [eh, er]
 have hz6 := nz_mul hzz hzz
 by_cases hx : x2 - x1 = 0
 ·have e : x1 = x2 := by grobner
  subst e
  rw [hx, if_pos (by grobner)]
  by_cases hy : y2 - y1 = 0
  ·have e : y1 = y2 := by grobner
   subst e
   rw [hy, if_pos (by grobner), twF_spec h20, tp_mk hz1, tp_mk hz2]
  ·rw [if_neg (nz_mul hy (nz_mul hz6 hzz)), tp_far]
   rw [tp_mk hz1] at hs ⊢
   rw [tp_mk hz2] at ht ⊢
   refine (add_opp ⟨rfl, ?_⟩).symm
   simp only [On] at hs ht
   have : (y2 - y1) * (y1 + y2) = 0 := by grobner
   rcases zd this with e | e
   ·exact absurd e hy
   ·grobner
 ·rw [if_neg (nz_mul hx hz6), tp_mk hz1, tp_mk hz2]
  have hne : ¬(x1 = x2) := fun e => hx (by grobner)
  rw [add_pt, if_neg (fun e => hne e.1)]
  have hl : slope x1 y1 x2 y2 * (x2 - x1) = y2 - y1 := by
   unfold slope
   rw [if_neg (fun e => hne e.1)]
   have := ivm hx
   grobner
  generalize slope x1 y1 x2 y2 = l at hl ⊢
  have hz3 : (x2 - x1) * ((z1 * z2) * (z1 * z2)) * (z1 * z2) ≠ 0 := nz_mul (nz_mul hx hz6) hzz
  rw [← tp_mk hz3]
  congr 1
  have ey : y2 = y1 + l * (x2 - x1) := by grobner
  subst ey
  clear hl hs ht hne hx hz3 hz6 hzz hz1 hz2 eh er
  refine Prod.ext ?_ (Prod.ext ?_ ?_)
  ·dsimp only
   grobner
  ·dsimp only
   grobner
  ·rfl
/-- a multiple: k times -/
noncomputable def sm : Nat → Pt p → Pt p
 | 0, P => far
 | k + 1, P => add (sm k P) P
theorem sm_on {b : Fin p} {P : Pt p} (h : On b P) : ∀ k, On b (sm k P)
 | 0 => trivial
 | k + 1 => add_on (sm_on h k) h
end EC
namespace EC
open Pt
variable {p : Nat} [NeZero p] [H : Nonempty (Fd p)]
/-- the curve has no double point, and 2 and 3 are not 0 -/
structure Ok (b : Fin p) : Prop where
 hb : b * b ≠ 4
 h2 : (2 : Fin p) ≠ 0
 h3 : (3 : Fin p) ≠ 0
theorem Ok.assoc {b : Fin p} (h : Ok b) {P Q R : Pt p} (h1 : On b P) (h2 : On b Q) (h3 : On b R) : add (add P Q) R = add P (add Q R) := EC.assoc h.hb h.h2 h.h3 h1 h2 h3
theorem sm_add {b : Fin p} (h : Ok b) {P : Pt p} (hP : On b P) (i : Nat) : ∀ j, sm (i + j) P = add (sm i P) (sm j P)
 | 0 => (add_far _).symm
 | j + 1 => by
  show add (sm (i + j) P) P = add (sm i P) (add (sm j P) P)
  rw [sm_add h hP i j]
  exact h.assoc (sm_on hP i) (sm_on hP j) hP
theorem sm_one (P : Pt p) : sm 1 P = P := far_add P
theorem sm_far : ∀ k, sm k (far : Pt p) = far
 | 0 => rfl
 | k + 1 => by
  show add (sm k far) far = far
  rw [sm_far k]
  rfl
theorem sm_mul {b : Fin p} (h : Ok b) {P : Pt p} (hP : On b P) (i : Nat) : ∀ j, sm (i * j) P = sm j (sm i P)
 | 0 => rfl
 | j + 1 => by
  rw [Nat.mul_succ, sm_add h hP, sm_mul h hP i j]
  rfl
theorem sm_two {b : Fin p} (h : Ok b) {P : Pt p} (hP : On b P) (i : Nat) : sm (2 * i) P = add (sm i P) (sm i P) := by
 rw [Nat.two_mul, sm_add h hP]
/-- P + Q = far: P is Q's negative -/
theorem add_cancel {b : Fin p} (h : Ok b) {P Q R : Pt p} (h1 : On b P) (h2 : On b Q) (h3 : On b R) (e : add P R = add Q R) : P = Q := by
 have e2 : add (add P R) (neg R) = add (add Q R) (neg R) := by rw [e]
 rw [h.assoc h1 h3 h3.neg, h.assoc h2 h3 h3.neg, EC.add_neg, add_far, add_far] at e2
 exact e2
theorem inj_base {b : Fin p} (h : Ok b) {n : Nat} (hn : Pr.Prime n) {G : Pt p} (hG : On b G) (hn0 : sm n G = far) (hg : G ≠ far) : ∀ i j, i ≤ j → j < n → sm i G = sm j G → i = j := by
 intro i j hij hj e
 apply Classical.byContradiction
 intro hne
 have e1 : sm (j - i) G = far := by
  have e2 : sm j G = add (sm (j - i) G) (sm i G) := by rw [← sm_add h hG, show j - i + i = j by omega]
  have e3 : add far (sm i G) = add (sm (j - i) G) (sm i G) := by rw [← e2, far_add, e]
  exact (add_cancel h (show On b far from trivial) (sm_on hG _) (sm_on hG _) e3).symm
 obtain ⟨a, _, ha⟩ := Pr.inv_ex hn (d := j - i) (by omega) (by omega)
 have e4 : sm ((j - i) * a) G = far := by rw [sm_mul h hG, e1, sm_far]
 have e5 : (j - i) * a = n * ((j - i) * a / n) + 1 := by
  have := Nat.div_add_mod ((j - i) * a) n
  omega
 rw [e5, sm_add h hG, sm_mul h hG, hn0, sm_far, sm_one, far_add] at e4
 exact hg e4
/-- a point's number -/
def code : Pt p → Nat
 | far => 2 * p
 | affp x y => 2 * x.val + (if 2 * y.val < p then 1 else 0)
theorem code_lt (P : Pt p) : code P < 2 * p + 1 := by
 cases P with
 | far => exact Nat.lt_succ_self _
 | affp x y =>
  have := x.isLt
  show 2 * x.val + _ < _
  split <;> omega
theorem neg_val {y : Fin p} (h : y ≠ 0) : (-y).val = p - y.val := by
 have h0 : y.val ≠ 0 := fun e => h (Fin.ext (by rw [e]; rfl))
 have := y.isLt
 rw [Fin.val_neg']
 exact Nat.mod_eq_of_lt (by omega)
theorem code_inj {b : Fin p} (hodd : p % 2 = 1) {P Q : Pt p} (h1 : On b P) (h2 : On b Q) (e : code P = code Q) : P = Q := by
 cases P with
 | far =>
  cases Q with
  | far => rfl
  | affp x y =>
   have := x.isLt
   have e' : 2 * p = 2 * x.val + (if 2 * y.val < p then 1 else 0) := e
   split at e' <;> omega
 | affp x y =>
  cases Q with
  | far =>
   have := x.isLt
   have e' : 2 * x.val + (if 2 * y.val < p then 1 else 0) = 2 * p := e
   split at e' <;> omega
  | affp x' y' =>
   have e' : 2 * x.val + (if 2 * y.val < p then 1 else 0) = 2 * x'.val + (if 2 * y'.val < p then 1 else 0) := e
   have ex : x = x' := Fin.ext (by split at e' <;> split at e' <;> omega)
   subst ex
   have hs : (2 * y.val < p) ↔ (2 * y'.val < p) := by split at e' <;> split at e' <;> omega
   simp only [On] at h1 h2
   have hz : (y - y') * (y + y') = 0 := by grobner
   rcases zd hz with e2 | e2
   ·have : y = y' := by grobner
    rw [this]
   ·have e3 : y' = -y := by grobner
    by_cases hy : y = 0
    ·rw [e3, hy]
     congr 1
     grobner
    ·have := neg_val hy
     rw [← e3] at this
     have hl := y.isLt
     have hl' := y'.isLt
     have h0 : y.val ≠ 0 := fun e => hy (Fin.ext (by rw [e]; rfl))
     omega
theorem two_far {b : Fin p} (h : Ok b) (hroot : ∀ x : Fin p, x * x * x - 3 * x + b ≠ 0) {T : Pt p} (hT : On b T) (e : add T T = far) : T = far := by
 cases T with
 | far => rfl
 | affp x y =>
  have e2 := add_eq_far e
  simp only [neg, Pt.affp.injEq] at e2
  have hyy : 2 * y = 0 := by have := e2.2; grobner
  rcases zd hyy with e3 | e3
  ·exact (h.h2 e3).elim
  ·simp only [On] at hT
   subst e3
   exact (hroot x (by grobner)).elim
/-- n times any point is far: the curve has n points -/
theorem order_all {b : Fin p} (h : Ok b) (hodd : p % 2 = 1) {n : Nat} (hn : Pr.Prime n) (h3n : 2 * p + 1 < 3 * n) {G : Pt p} (hG : On b G) (hn0 : sm n G = far) (hg : G ≠ far)
  (hroot : ∀ x : Fin p, x * x * x - 3 * x + b ≠ 0) {P : Pt p} (hP : On b P) : sm n P = far := by
 apply Classical.byContradiction
 intro hne
 have hn1 := hn.1
 -- no multiple of G is P or 2 P
 have mul_far : ∀ m, sm n (sm m G) = far := fun m => by
  rw [← sm_mul h hG, Nat.mul_comm, sm_mul h hG, hn0, sm_far]
 have no1 : ∀ d m, 0 < d → d < 3 → sm d P ≠ sm m G := by
  intro d m h1 h2 e
  have e2 : sm n (sm d P) = far := by rw [e]; exact mul_far m
  have : d = 1 ∨ d = 2 := by omega
  rcases this with rfl | rfl
  ·rw [sm_one] at e2
   exact hne e2
  ·rw [← sm_mul h hP, sm_two h hP] at e2
   exact hne (two_far h hroot (sm_on hP n) e2)
 -- the negative of i G
 have negi : ∀ i, i ≤ n → add (sm i G) (sm (n - i) G) = far := fun i hi => by
  rw [← sm_add h hG, show i + (n - i) = n by omega, hn0]
 have inj : ∀ c c' i i', c ≤ c' → c' < 3 → i < n → i' < n → add (sm c P) (sm i G) = add (sm c' P) (sm i' G) → c = c' ∧ i = i' := by
  intro c c' i i' hc hc' hi hi' e
  by_cases hcc : c = c'
  ·subst hcc
   refine ⟨rfl, ?_⟩
   have e2 : add (sm i G) (sm c P) = add (sm i' G) (sm c P) := by
    rw [add_comm (sm_on hG i) (sm_on hP c), add_comm (sm_on hG i') (sm_on hP c), e]
   have e3 := add_cancel h (sm_on hG i) (sm_on hG i') (sm_on hP c) e2
   rcases Nat.le_total i i' with h5 | h5
   ·exact inj_base h hn hG hn0 hg i i' h5 hi' e3
   ·exact (inj_base h hn hG hn0 hg i' i h5 hi e3.symm).symm
  ·exfalso
   have e1 : sm c' P = add (sm (c' - c) P) (sm c P) := by rw [← sm_add h hP, show c' - c + c = c' by omega]
   have oA := sm_on hP (c' - c)
   have oC := sm_on hP c
   have oI := sm_on hG i
   have oI' := sm_on hG i'
   have e2 : add (sm i G) (sm c P) = add (add (sm (c' - c) P) (sm i' G)) (sm c P) := by
    rw [add_comm oI oC, e, e1, h.assoc oA oC oI', h.assoc oA oI' oC, add_comm oC oI']
   have e3 := add_cancel h oI (add_on oA oI') oC e2
   have oN := sm_on hG (n - i')
   have e4 : add (sm i G) (sm (n - i') G) = sm (c' - c) P := by
    rw [e3, h.assoc oA oI' oN, negi i' (by omega), add_far]
   rw [← sm_add h hG] at e4
   exact no1 (c' - c) _ (by omega) (by omega) e4.symm
 have key := Pr.php (2 * p + 1) (3 * n) (fun k => code (add (sm (k / n) P) (sm (k % n) G))) (fun k _ => code_lt _) (fun i j hi hj e => by
  have e2 := code_inj hodd (add_on (sm_on hP _) (sm_on hG _)) (add_on (sm_on hP _) (sm_on hG _)) e
  have a1 : i / n < 3 := Nat.div_lt_of_lt_mul (by rw [Nat.mul_comm]; exact hi)
  have a2 : j / n < 3 := Nat.div_lt_of_lt_mul (by rw [Nat.mul_comm]; exact hj)
  have b1 := Nat.mod_lt i (show 0 < n by omega)
  have b2 := Nat.mod_lt j (show 0 < n by omega)
  have r := (Nat.le_total (i / n) (j / n)).elim (fun hl => inj _ _ _ _ hl a2 b1 b2 e2) (fun hl => by
   have := inj _ _ _ _ hl a1 b2 b1 e2.symm
   exact ⟨this.1.symm, this.2.symm⟩)
  have c1 := Nat.div_add_mod i n
  have c2 := Nat.div_add_mod j n
  rw [← c1, ← c2, r.1, r.2])
 omega
end EC
end Go.Proofs.Ytkfjhndofbmhoaa
