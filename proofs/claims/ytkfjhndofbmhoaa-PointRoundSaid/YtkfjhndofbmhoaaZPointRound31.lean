/- What the proof of PointRound is made of, part 31. -/
import Derived.Test.YtkfjhndofbmhoaaZPointRound30
namespace Go.Proofs.Ytkfjhndofbmhoaa.EC
open Go.RowKit Pt
set_option linter.unusedVariables false
set_option linter.unusedSimpArgs false
theorem ev_ring {p : Nat} [NeZero p] {r b : Fin p} (hr : r * r * r = 3 * r - b) (a0 a1 a2 c0 c1 c2 : Fin p) :
  a0 * c0 + -b * (a1 * c2 + a2 * c1) + (a0 * c1 + a1 * c0 + 3 * (a1 * c2 + a2 * c1) + -b * (a2 * c2)) * r + (a0 * c2 + a1 * c1 + a2 * c0 + 3 * (a2 * c2)) * (r * r) = (a0 + a1 * r + a2 * (r * r)) * (c0 + c1 * r + c2 * (r * r)) := by grobner
theorem ev_one_ring {p : Nat} [NeZero p] (u r : Fin p) : u + 0 * r + 0 * (r * r) = u := by grobner
theorem ev_x_ring {p : Nat} [NeZero p] (r : Fin p) : 0 + 1 * r + 0 * (r * r) = r := by grobner
theorem sub_ring {p : Nat} [NeZero p] (u : Fin p) : u + -1 = u - 1 := by grobner
theorem root_ring {p : Nat} [NeZero p] {x b : Fin p} (h : x * x * x - 3 * x + b = 0) : x * x * x = 3 * x - b := by grobner
theorem zero_ring {p : Nat} [NeZero p] {x a0 a1 a2 : Fin p} (h : a0 + a1 * x + a2 * (x * x) = x) : a0 + (a1 - 1) * x + a2 * (x * x) = 0 := by grobner
theorem mul_zero_ring {p : Nat} [NeZero p] (u : Fin p) : u * 0 = 0 := by grobner
theorem fi_mod (a : Nat) : fi (a % pP) = fi a := Fin.ext (Nat.mod_mod a pP)
theorem fi_mulr (a b : Nat) : fi (a * b) = fi a * fi b := by rw [← fi_mul, ← fi_mod (a * b)]; rfl
theorem fi_addr (a b : Nat) : fi (a + b) = fi a + fi b := by rw [← fi_add, ← fi_mod (a + b)]; rfl
/-- polynomials modulo the curve's cubic -/
def m3 (a c : T3) : T3 :=
 ((a.1 * c.1 + (pP - cB) * (a.2.1 * c.2.2 + a.2.2 * c.2.1)) % pP, (a.1 * c.2.1 + a.2.1 * c.1 + 3 * (a.2.1 * c.2.2 + a.2.2 * c.2.1) + (pP - cB) * (a.2.2 * c.2.2)) % pP, (a.1 * c.2.2 + a.2.1 * c.2.1 + a.2.2 * c.1 + 3 * (a.2.2 * c.2.2)) % pP)
def ev (r : Fin pP) (a : T3) : Fin pP := fi a.1 + fi a.2.1 * r + fi a.2.2 * (r * r)
theorem fi_bn : fi (pP - cB) = -cb := by decide +kernel
theorem ev_m3 {r : Fin pP} (hr : r * r * r = 3 * r - cb) (a c : T3) : ev r (m3 a c) = ev r a * ev r c := by
 unfold ev m3
 dsimp only
 rw [fi_mod, fi_mod, fi_mod]
 simp only [fi_addr, fi_mulr, fi_bn, fi_lit3]
 generalize fi a.1 = a0
 generalize fi a.2.1 = a1
 generalize fi a.2.2 = a2
 generalize fi c.1 = c0
 generalize fi c.2.1 = c1
 generalize fi c.2.2 = c2
 generalize cb = b at *
 exact ev_ring hr a0 a1 a2 c0 c1 c2
def pw3 : Nat → T3 → Nat → T3
 | 0, _, _ => (1, 0, 0)
 | k + 1, a, e => if e % 2 = 1 then m3 a (pw3 k (m3 a a) (e / 2)) else pw3 k (m3 a a) (e / 2)
def pwF (x : Fin pP) : Nat → Fin pP
 | 0 => 1
 | n + 1 => pwF x n * x
theorem pwF_sq (x : Fin pP) : ∀ n, pwF (x * x) n = pwF x (2 * n)
 | 0 => rfl
 | n + 1 => by
  show pwF (x * x) n * (x * x) = pwF x (2 * n) * x * x
  rw [pwF_sq x n]
  exact (Fin.mul_assoc _ _ _).symm
theorem ev_one (r : Fin pP) : ev r (1, 0, 0) = 1 := by
 unfold ev
 show fi 1 + fi 0 * r + fi 0 * (r * r) = 1
 rw [fi_one, fi_zero]
 generalize (1 : Fin pP) = u
 exact ev_one_ring u r
theorem ev_x (r : Fin pP) : ev r (0, 1, 0) = r := by
 unfold ev
 show fi 0 + fi 1 * r + fi 0 * (r * r) = r
 rw [fi_one, fi_zero]
 exact ev_x_ring r
theorem pw3_spec {r : Fin pP} (hr : r * r * r = 3 * r - cb) : ∀ (k : Nat) (a : T3) (e : Nat), e < 2 ^ k → ev r (pw3 k a e) = pwF (ev r a) e
 | 0, a, e, h => by
  have : e = 0 := by simpa using h
  subst this
  exact ev_one r
 | k + 1, a, e, h => by
  have ih := pw3_spec hr k (m3 a a) (e / 2) (by rw [Nat.pow_succ] at h; omega)
  rw [ev_m3 hr, pwF_sq] at ih
  unfold pw3
  by_cases h1 : e % 2 = 1
  ·rw [if_pos h1, ev_m3 hr, ih]
   have e1 : e = 2 * (e / 2) + 1 := by omega
   have e2 : pwF (ev r a) e = pwF (ev r a) (2 * (e / 2)) * ev r a := by
    rw [congrArg (pwF (ev r a)) e1]
    rfl
   rw [e2]
   exact Fin.mul_comm _ _
  ·rw [if_neg h1, ih]
   have e1 : e = 2 * (e / 2) := by omega
   rw [← e1]
theorem pwF_fi (r : Nat) : ∀ n, pwF (fi r) n = fi (r ^ n)
 | 0 => rfl
 | n + 1 => by
  show pwF (fi r) n * fi r = fi (r ^ n * r)
  rw [pwF_fi r n, fi_mulr]
def fac : List Nat := [2, 3, 5, 5, 17, 257, 641, 1531, 65537, 490463, 6700417, 835945042244614951780389953367877943453916927241]
theorem fac_pr : ∀ x ∈ fac, Pr.Prime x := by
 intro x hx
 simp only [fac, List.mem_cons, List.not_mem_nil, or_false] at hx
 rcases hx with rfl | rfl | rfl | rfl | rfl | rfl | rfl | rfl | rfl | rfl | rfl | rfl
 ·exact (Pr.prime_trial (k := 0) (by decide) (by decide) (by decide +kernel))
 ·exact (Pr.prime_trial (k := 0) (by decide) (by decide) (by decide +kernel))
 ·exact (Pr.prime_trial (k := 1) (by decide) (by decide) (by decide +kernel))
 ·exact (Pr.prime_trial (k := 1) (by decide) (by decide) (by decide +kernel))
 ·exact (Pr.prime_trial (k := 3) (by decide) (by decide) (by decide +kernel))
 ·exact (Pr.prime_trial (k := 15) (by decide) (by decide) (by decide +kernel))
 ·exact (Pr.prime_trial (k := 24) (by decide) (by decide) (by decide +kernel))
 ·exact (Pr.prime_trial (k := 38) (by decide) (by decide) (by decide +kernel))
 ·exact (Pr.prime_trial (k := 255) (by decide) (by decide) (by decide +kernel))
 ·exact (Pr.prime_trial (k := 699) (by decide) (by decide) (by decide +kernel))
 ·exact (Pr.prime_trial (k := 2587) (by decide) (by decide) (by decide +kernel))
 ·exact Pr.pr_835945042244614951780389953367877943453916927241
theorem gen_one : 6 ^ (pP - 1) % pP = 1 := by
 rw [← Pr.pm_spec pP 256 6 _ (by decide +kernel)]
 decide +kernel
theorem gen_no : ∀ q ∈ fac, 6 ^ ((pP - 1) / q) % pP ≠ 1 := by
 have h : ∀ q ∈ fac, Pr.pm pP 256 6 ((pP - 1) / q) ≠ 1 := by decide +kernel
 intro q hq e
 rw [← Pr.pm_spec pP 256 6 _ (Nat.lt_of_le_of_lt (Nat.div_le_self _ _) (by decide +kernel))] at e
 exact h q hq e
theorem fermatP (x : Fin pP) : pwF x pP = x := by
 have h : x.val ^ pP % pP = x.val := Pr.fermat (by decide +kernel) fac fac_pr (by decide +kernel) gen_one gen_no x.isLt
 have e : pwF (fi x.val) pP = fi (x.val ^ pP) := pwF_fi x.val pP
 rw [← fi_mod (x.val ^ pP), h, fi_of] at e
 exact e
theorem pw_x : pw3 256 (0, 1, 0) pP = (66434390973925144466073271287821796038003695194169110494110089305650096453661, 12402202686218762177567235911775779164004716598278868847786114277539554646092, 24678849118215552148312087830792888746041224110560601850711771001608500700145) := by decide +kernel
theorem bez : m3 (76626890310466861426869089647039036757962535851890885406097439786770458211455, 74462945259064871768191128030512052509059297803194871526163573358218695456204, 34768139465301476436978405170953382516735956999154666452188405812258086013549) (66434390973925144466073271287821796038003695194169110494110089305650096453661, 12402202686218762177567235911775779164004716598278868847786114277539554646092 + (pP - 1), 24678849118215552148312087830792888746041224110560601850711771001608500700145) = (1, 0, 0) := by decide +kernel
theorem fi_m1 (a : Nat) : fi (a + (pP - 1)) = fi a - 1 := by
 rw [fi_addr, show fi (pP - 1) = -1 by decide +kernel]
 generalize fi a = u
 exact sub_ring u
/-- the curve's cubic has no root -/
theorem no_root (x : Fin pP) : x * x * x - 3 * x + cb ≠ 0 := by
 intro h
 have hr : x * x * x = 3 * x - cb := by
  generalize cb = b at *
  exact root_ring h
 have h1 := pw3_spec hr 256 (0, 1, 0) pP (by decide +kernel)
 rw [ev_x, fermatP, pw_x] at h1
 have h2 := ev_m3 hr (76626890310466861426869089647039036757962535851890885406097439786770458211455, 74462945259064871768191128030512052509059297803194871526163573358218695456204, 34768139465301476436978405170953382516735956999154666452188405812258086013549) (66434390973925144466073271287821796038003695194169110494110089305650096453661, 12402202686218762177567235911775779164004716598278868847786114277539554646092 + (pP - 1), 24678849118215552148312087830792888746041224110560601850711771001608500700145)
 rw [bez, ev_one] at h2
 have h3 : ev x (66434390973925144466073271287821796038003695194169110494110089305650096453661, 12402202686218762177567235911775779164004716598278868847786114277539554646092 + (pP - 1), 24678849118215552148312087830792888746041224110560601850711771001608500700145) = 0 := by
  unfold ev at h1 ⊢
  dsimp only at h1 ⊢
  rw [fi_m1]
  generalize fi 66434390973925144466073271287821796038003695194169110494110089305650096453661 = a0 at *
  generalize fi 12402202686218762177567235911775779164004716598278868847786114277539554646092 = a1 at *
  generalize fi 24678849118215552148312087830792888746041224110560601850711771001608500700145 = a2 at *
  exact zero_ring h1
 rw [h3] at h2
 refine one_p (h2.trans ?_)
 generalize ev x (76626890310466861426869089647039036757962535851890885406097439786770458211455, 74462945259064871768191128030512052509059297803194871526163573358218695456204, 34768139465301476436978405170953382516735956999154666452188405812258086013549) = u
 exact mul_zero_ring u
theorem base_far : sm nN (P2 gX gY false) = far := by
 have ht : Lt3 (gX, gY, 1) := ⟨gX_lt, gY_lt, pP_one⟩
 have h := mu_eq ht (on_spec on_g) (li_eq gX gY false) 256 (k := nN) (by decide +kernel) 256 (Nat.le_refl _)
 rw [Nat.sub_self, Nat.pow_zero, Nat.div_one] at h
 rw [← h]
 have hz : (muS nN (gX, gY, 1) 256 256).2.2 = 0 := by decide +kernel
 generalize muS nN (gX, gY, 1) 256 256 = s at hz
 obtain ⟨a, b, c⟩ := s
 dsimp only at hz
 subst hz
 show tp (fi a, fi b, fi 0) = far
 rw [fi_zero, tp_far]
/-- n times any point is far -/
theorem n_far {Q : Pt pP} (h : On cb Q) : sm nN Q = far :=
 order_all ok_cb pP_odd pr_n (by decide +kernel) (on_spec on_g) base_far (by intro e; cases e) no_root h
theorem sm_round {Q : Pt pP} (h : On cb Q) (k : Nat) : sm (k + nN) Q = sm k Q := by
 rw [sm_add ok_cb h, n_far h, add_far]
end Go.Proofs.Ytkfjhndofbmhoaa.EC
namespace Go.Proofs.Ytkfjhndofbmhoaa
open EC Go.RowKit Go.Proofs.Ytkfjhndofbmhoaa.Arr Go.Proofs.YtkfjhndofbmhoaaW.PrintWords Go.Proofs.YtkfjhndofbmhoaaW.PrintLast Go.Proofs.YtkfjhndofbmhoaaW.PrintMore
attribute [local go_sem high] eqg_num eqg_num0 eqg_pt
set_option linter.unusedVariables false
set_option linter.unusedSimpArgs false
end Go.Proofs.Ytkfjhndofbmhoaa
