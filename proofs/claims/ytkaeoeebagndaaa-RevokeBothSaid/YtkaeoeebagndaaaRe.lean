/- revoke.Parse: what it answers. -/
import Derived.Test.YtkaeoeebagndaaaRd
namespace Go.Proofs.Ytkaeoeebagndaaa.PRevokeBoth
open Go.RowKit Go.Shelf Go.Proofs.YtkaeoeebagndaaaW.PrintWords Go.Proofs.YtkaeoeebagndaaaW.PrintLast Go.Proofs.YtkaeoeebagndaaaW.PrintMore
attribute [local go_sem] Oper.semAt_some max2_int min2_int errW_none errW_some
attribute [local go_sem high] u8_w cast_tmod eql_code neq_code eql_code_nil neq_code_nil eql_nil_code neq_nil_code
set_option linter.unusedVariables false
set_option linter.unusedSimpArgs false
/-- row i of the bytes, or that it is none -/
def rowAt (k : Nat) (b : List Int) (i : Nat) : Option (Option (S43)) :=
  (tlv_Of.f k ((b.drop (16 * i)).take 8)).bind fun r => (tlv_Of.f k ((b.drop (16 * i + 8)).take 8)).bind fun q => some (if r.2 = none ∧ q.2 = none then some ⟨r.1, q.1⟩ else none)
def addR (o : Option (List (S43))) (x : Option (S43)) : Option (List (S43)) := match o, x with
  | some l, some y => some (l ++ [y])
  | _, _ => none
/-- the first n rows, or that one of them is none -/
def rowsAt (k : Nat) (b : List Int) : Nat → Option (Option (List (S43)))
  | 0 => some (some [])
  | n + 1 => (rowsAt k b n).bind fun o => (rowAt k b n).bind fun x => some (addR o x)
def revoke_Parse.f (k : Nat) (l0 : List Int) : Option (List (S43) × Option Int) :=
  (tlv_Get.f k l0).bind fun g => match g.2, g.1 with
    | none, [x] => if x.f0 = 1 ∧ x.f1.length % 16 = 0 then (if x.f1.length ≤ 100000 then
        (rowsAt k x.f1 (x.f1.length / 16)).bind fun o => match o with
          | none => some ([], some 2)
          | some out => (revoke_May.f k out).bind fun t => if t = true then some (out, none) else some ([], some 2)
        else none) else some ([], some 2)
    | _, _ => some ([], some 2)
theorem rowAt.mono (b : List Int) (i k : Nat) : LeO (rowAt k b i) (rowAt (k + 1) b i) :=
  LeO.bind (tlv_Of.mono _ _) (fun _ => LeO.bind (tlv_Of.mono _ _) (fun _ => LeO.refl _))
theorem rowsAt.mono (b : List Int) (k : Nat) : ∀ n, LeO (rowsAt k b n) (rowsAt (k + 1) b n)
  | 0 => LeO.refl _
  | n + 1 => LeO.bind (rowsAt.mono b k n) (fun o => LeO.bind (rowAt.mono b n k) (fun _ => LeO.refl _))
theorem revoke_Parse.mono : ∀ a0 k, LeO (revoke_Parse.f k a0) (revoke_Parse.f (k + 1) a0) := by
  intro a0 k
  refine LeO.bind (tlv_Get.mono _ _) (fun g => ?_)
  obtain ⟨l, e⟩ := g
  cases e with
  | some e => exact LeO.refl _
  | none =>
    match l with
    | [] => exact LeO.refl _
    | x :: y :: r => exact LeO.refl _
    | [x] =>
      show LeO (if x.f0 = 1 ∧ x.f1.length % 16 = 0 then _ else _) (if x.f0 = 1 ∧ x.f1.length % 16 = 0 then _ else _)
      by_cases h : x.f0 = 1 ∧ x.f1.length % 16 = 0
      · rw [if_pos h, if_pos h]
        by_cases h2 : x.f1.length ≤ 100000
        · rw [if_pos h2, if_pos h2]
          refine LeO.bind (rowsAt.mono _ _ _) (fun o => ?_)
          cases o with
          | none => exact LeO.refl _
          | some out => exact LeO.bind (revoke_May.mono _ _) (fun _ => LeO.refl _)
        · rw [if_neg h2, if_neg h2]
          exact LeO.refl _
      · rw [if_neg h, if_neg h]
        exact LeO.refl _
/-- every row tells something -/
theorem rows_all {k : Nat} {b : List Int} : ∀ (n : Nat) {o : Option (List (S43))}, rowsAt k b n = some o → ∀ i, i < n → ∃ x, rowAt k b i = some x
  | 0, _, _, i, hi => absurd hi (Nat.not_lt_zero i)
  | n + 1, o, h, i, hi => by
    obtain ⟨p, hp, h⟩ := Option.bind_eq_some_iff.1 h
    obtain ⟨x, hx, _⟩ := Option.bind_eq_some_iff.1 h
    rcases Nat.lt_succ_iff_lt_or_eq.1 hi with h1 | h1
    · exact rows_all n hp i h1
    · exact ⟨x, by rw [h1]; exact hx⟩
theorem rows_good {k : Nat} {b : List Int} {r : Nat → Option (S43)} : ∀ (n : Nat) (l : List (S43)), (∀ i, i < n → rowAt k b i = some (r i)) → l.map some = (List.range n).map r → rowsAt k b n = some (some l)
  | 0, l, _, hl => by
    have : l = [] := by simpa using hl
    subst this
    rfl
  | n + 1, l, hr, hl => by
    rw [List.range_succ, List.map_append] at hl
    obtain ⟨l1, l2, rfl, e1, e2⟩ := List.map_eq_append_iff.1 hl
    obtain ⟨y, rfl, e3⟩ : ∃ y, l2 = [y] ∧ some y = r n := by
      obtain ⟨y, l3, rfl, e3, e4⟩ := List.map_eq_cons_iff.1 (show l2.map some = [r n] from e2)
      rw [List.map_eq_nil_iff] at e4
      subst e4
      exact ⟨y, rfl, e3⟩
    have ih := rows_good n l1 (fun i hi => hr i (by omega)) e1
    show (rowsAt k b n).bind _ = _
    rw [ih]
    show (rowAt k b n).bind _ = _
    rw [hr n (by omega), ← e3]
    rfl
theorem rows_def {k : Nat} {b : List Int} : ∀ (n : Nat), (∀ i, i < n → ∃ x, rowAt k b i = some x) → ∃ o, rowsAt k b n = some o
  | 0, _ => ⟨_, rfl⟩
  | n + 1, h => by
    obtain ⟨o, ho⟩ := rows_def n (fun i hi => h i (by omega))
    obtain ⟨x, hx⟩ := h n (by omega)
    exact ⟨addR o x, by show (rowsAt k b n).bind _ = _; rw [ho]; show (rowAt k b n).bind _ = _; rw [hx]; rfl⟩
theorem rows_none {k : Nat} {b : List Int} {r : Nat → Option (S43)} {i : Nat} (hi : r i = none) : ∀ (n : Nat), (∀ i, i < n → rowAt k b i = some (r i)) → i < n → rowsAt k b n = some none
  | 0, _, h => absurd h (Nat.not_lt_zero i)
  | n + 1, hr, h => by
    obtain ⟨o, ho⟩ : ∃ o, rowsAt k b n = some o := rows_def n (fun j hj => ⟨_, hr j (by omega)⟩)
    show (rowsAt k b n).bind _ = _
    by_cases h1 : i < n
    · rw [rows_none hi n (fun j hj => hr j (by omega)) h1]
      show (rowAt k b n).bind _ = _
      rw [hr n (by omega)]
      rfl
    · obtain rfl : i = n := by omega
      rw [ho]
      show (rowAt k b i).bind _ = _
      rw [hr i (by omega), hi]
      cases o <;> rfl
/-- what the rows are in memory -/
def rcells (l : List (S43)) : List Value := l.flatMap fun y => [.int .i64 y.f0, .int .i64 y.f1]
theorem rcells_snoc (l : List (S43)) (y : S43) : rcells (l ++ [y]) = rcells l ++ [.int .i64 y.f0, .int .i64 y.f1] := by simp [rcells]
theorem rcells_reps (w : World) (base : Nat) (ok : Nat → Prop) : ∀ l : List (S43), Reps (k43.M w base ok) 2 l (rcells l) := by
  intro l
  suffices h : ∀ (m l : List (S43)), Reps (k43.M w base ok) 2 m (rcells m) → Reps (k43.M w base ok) 2 (m ++ l) (rcells (m ++ l)) from h [] l (Reps.none _ _)
  intro m l
  induction l generalizing m with
  | nil => intro h; rw [List.append_nil]; exact h
  | cons y r ih =>
    intro h
    have := ih (m ++ [y]) (by rw [rcells_snoc]; exact h.snoc (show k43.M w base ok y _ from ⟨_, _, rfl, rfl, rfl⟩) rfl)
    rw [List.append_assoc] at this
    exact this
theorem rows_R {w : World} {base : Nat} {v : Value} {l : List (S43)} (h : w.ownsRow base 43 2 v l.length (rcells l)) : Kd.R k43 43 w base (fun _ => True) v l :=
  ⟨fun _ _ => trivial, rcells l, h, rcells_reps w base _ l⟩
theorem keepsO {W W' : World} (hb : Below W.heap.size W W') : KeepsOthers W W' := ⟨hb.size, fun k o hk ho => (hb.block k (Array.getElem?_eq_some_iff.1 hk).1).trans hk⟩
/-- a part of bytes in memory -/
theorem C_part {w : World} {A : Option Addr} {b o n : Nat} {xs : List Int} (h : (Kd.int .u8).C w A n xs) (hA : A = some ⟨b, o, none⟩) (i m : Nat) (hi : i + m ≤ n) : (Kd.int .u8).C w (some ⟨b, o + i, none⟩) ((xs.drop i).take m).length ((xs.drop i).take m) := by
  obtain ⟨h1, h2, h3⟩ := h
  have hl : ((xs.drop i).take m).length = m := by rw [List.length_take, List.length_drop]; omega
  refine ⟨rfl, by rw [hl]; omega, fun hp => ⟨_, rfl, fun j p hj => ?_⟩⟩
  rw [hl] at hp
  obtain ⟨ad, ea, hc⟩ := h3 (by omega)
  rw [hA] at ea
  injection ea with ea
  subst ea
  rw [List.getElem?_take] at hj
  split at hj
  · rw [List.getElem?_drop] at hj
    obtain ⟨c, q1, q2, q3⟩ := hc (i + j) p hj
    refine ⟨c, q1, q2, fun i2 u hu => ?_⟩
    have := q3 i2 u hu
    have e1 : ∀ x : Nat, (⟨b, o, none⟩ : Addr).add x = ⟨b, o + x, none⟩ := fun x => by unfold Addr.add; split <;> simp_all
    have e2 : ∀ x : Nat, (⟨b, o + i, none⟩ : Addr).add x = ⟨b, o + i + x, none⟩ := fun x => by unfold Addr.add; split <;> simp_all
    rw [e1] at this
    rw [e2, ← this]
    congr 2
    have : (Kd.int .u8).sz = 1 := rfl
    rw [this]
    omega
  · cases hj
end Go.Proofs.Ytkaeoeebagndaaa.PRevokeBoth
