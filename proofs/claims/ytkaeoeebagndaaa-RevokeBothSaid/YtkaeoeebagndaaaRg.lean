/- revoke.Parse's contract. -/
import Derived.Test.YtkaeoeebagndaaaRf
namespace Go.Proofs.Ytkaeoeebagndaaa.PRevokeBoth
open Go.RowKit Go.Shelf Go.Proofs.YtkaeoeebagndaaaW.PrintWords Go.Proofs.YtkaeoeebagndaaaW.PrintLast Go.Proofs.YtkaeoeebagndaaaW.PrintMore
set_option linter.unusedVariables false
set_option linter.unusedSimpArgs false
theorem parse_nil {tmpsw w w' : World} {f : Nat} {k : Nat} {args : Array Value} {r1 : List (S43)} {r2 : Option Int} (hr : (([] : List (S43)), (some (2 : Int))) = (r1, r2)) (h : Calls Try.prog f args w fun e w' => e = .returned (.tuple #[.slice none 0 0, errW (some 2)]) ∧ Below w.heap.size w w') :
    Calls Try.prog f args w fun e w' => ∃ v0_ : Value, e = .returned (.tuple #[v0_, errW r2]) ∧ Kd.R k43 43 w' w.heap.size (fun _ => True) v0_ r1 ∧ Below w.heap.size w w' := by
  cases hr
  refine h.mono ?_
  rintro e w' ⟨he, hb⟩
  exact ⟨_, he, rows_R (World.ownsRow_nil _ _ _ _), hb⟩
theorem revoke_Parse.calls (k : Nat) (A0 : Option Addr) (c0 : Nat) (l0 : List Int) (r1 : List (S43)) (r2 : Option Int) (w : World) (hr0 : Kd.C (Kd.int .u8) w A0 l0.length l0) (hc0 : l0.length ≤ c0) (h : revoke_Parse.f k l0 = some (r1, r2)) :
    Calls Try.prog 16 #[.slice A0 l0.length c0] w fun e w' => ∃ v0_ : Value, e = .returned (.tuple #[v0_, errW r2]) ∧ Kd.R k43 43 w' w.heap.size (fun _ => True) v0_ r1 ∧ Below w.heap.size w w' := by
  obtain ⟨⟨fl, er⟩, hg, h⟩ := Option.bind_eq_some_iff.1 h
  cases er with
  | some e => exact parse_nil (tmpsw := w) (w' := w) (k := k) (Option.some.inj h) (parse_bad1 k A0 c0 l0 fl e w hr0 hc0 hg)
  | none =>
    match fl, hg, h with
    | [], hg, h => exact parse_nil (tmpsw := w) (w' := w) (k := k) (Option.some.inj h) (parse_bad2 k A0 c0 l0 [] w hr0 hc0 hg (by simp))
    | x :: y :: r, hg, h => exact parse_nil (tmpsw := w) (w' := w) (k := k) (Option.some.inj h) (parse_bad2 k A0 c0 l0 (x :: y :: r) w hr0 hc0 hg (by simp))
    | [x], hg, h =>
      replace h : (if x.f0 = 1 ∧ x.f1.length % 16 = 0 then (if x.f1.length ≤ 100000 then
        (rowsAt k x.f1 (x.f1.length / 16)).bind fun o => match o with
          | none => some (([], some 2) : List (S43) × Option Int)
          | some out => (revoke_May.f k out).bind fun t => if t = true then some (out, none) else some ([], some 2)
        else none) else some (([], some 2) : List (S43) × Option Int)) = some (r1, r2) := h
      by_cases h1 : x.f0 = 1
      · by_cases h2 : x.f1.length % 16 = 0
        · rw [if_pos ⟨h1, h2⟩] at h
          split at h
          · rename_i h3
            obtain ⟨o, ho, h⟩ := Option.bind_eq_some_iff.1 h
            have hr : ∀ i, i < x.f1.length / 16 → rowAt k x.f1 i = some ((rowAt k x.f1 i).getD none) := fun i hi => by
              obtain ⟨y, hy⟩ := rows_all _ ho i hi
              rw [hy]
              rfl
            refine parse_good k A0 c0 l0 x w hr0 hc0 hg h1 (x.f1.length / 16) (by omega) (by omega) (fun i => (rowAt k x.f1 i).getD none) hr r1 r2 ?_ ?_
            · rintro ⟨i, hi, hri⟩
              have := rows_none (r := fun i => (rowAt k x.f1 i).getD none) hri _ hr hi
              rw [ho] at this
              cases Option.some.inj this
              have := Option.some.inj h
              cases this
              exact ⟨rfl, rfl⟩
            · intro out hout
              have := rows_good (r := fun i => (rowAt k x.f1 i).getD none) _ out hr hout
              rw [ho] at this
              cases Option.some.inj this
              obtain ⟨t, ht, h⟩ := Option.bind_eq_some_iff.1 h
              refine ⟨t, ht, fun e => ?_, fun e => ?_⟩
              · rw [if_pos e] at h
                cases h
                exact ⟨rfl, rfl⟩
              · rw [if_neg (by rw [e]; decide)] at h
                cases h
                exact ⟨rfl, rfl⟩
          · cases h
        · rw [if_neg (fun q => h2 q.2)] at h
          exact parse_nil (tmpsw := w) (w' := w) (k := k) (Option.some.inj h) (parse_bad4 k A0 c0 l0 x w hr0 hc0 hg h1 h2)
      · rw [if_neg (fun q => h1 q.1)] at h
        exact parse_nil (tmpsw := w) (w' := w) (k := k) (Option.some.inj h) (parse_bad3 k A0 c0 l0 x w hr0 hc0 hg h1)
end Go.Proofs.Ytkaeoeebagndaaa.PRevokeBoth
