/- TlvBack, the plain law: the printed functions answer true for every input. -/
import Derived.Test.YtikdfamhgopcdaaTbTlvBack
import Derived.Test.YtikdfamhgopcdaaTdTlvBack
import Derived.Test.YtikdfamhgopcdaaTeTlvBack
namespace Go.Proofs.Ytikdfamhgopcdaa.Pure
open Go.RowKit Go.ChangeShapes Go.WideShapes Go.Proofs.Ytikdfamhgopcdaa.PTlvBack Go.Proofs.YtikdfamhgopcdaaW.PrintWords Go.Proofs.YtikdfamhgopcdaaW.PrintLast
set_option linter.unusedVariables false
set_option linter.unusedSimpArgs false
theorem putL_max (q : List S) (h : ∀ f, f ∈ q → 0 ≤ f.f0 ∧ f.f0 ≤ 255 ∧ f.f1.length ≤ 65535) : (putL q).length ≤ q.length * 65538 := by
  induction q with
  | nil => simp [putL]
  | cons g r ih =>
    have := ih (fun f hf => h f (by simp [hf]))
    have := (h g (by simp)).2.2
    rw [putL_cons, List.length_append, enc_length, List.length_cons]
    omega
theorem back_of (a : Int) (ha : -9223372036854775808 ≤ a ∧ a ≤ 9223372036854775807) (k : Nat) (hk : 20 ≤ k) :
    tlv_Number.f k a = some (dig (a % 18446744073709551616)) ∧ tlv_Of.f k (dig (a % 18446744073709551616)) = some (if a < 0 then (0, some 2) else (a, none)) := by
  obtain ⟨m, rfl⟩ : ∃ m, k = m + 9 := ⟨k - 9, by omega⟩
  refine ⟨tnumber a m, ?_⟩
  rw [tof _ (okB_dig _) m, if_pos (show (dig (a % 18446744073709551616)).length = 8 from rfl), be8_dig _ (by omega) (by omega)]
  by_cases h : a < 0
  · rw [if_pos h, if_pos (by omega)]
  · rw [if_neg h, if_neg (by omega), show a % 18446744073709551616 = a by omega]
theorem TlvBack (l0 : List S63) (hm0 : l0.length ≤ maxLen) (hw0 : ∀ x, x ∈ l0 → (fun x => (Lit.int .i64 x.f0).wf = true ∧ x.f1.length ≤ maxLen ∧ ∀ y, y ∈ x.f1 → (Lit.int .u8 y).wf = true) x) (l1 : List Int) (hm1 : l1.length ≤ maxLen) (hw1 : ∀ x, x ∈ l1 → (fun n => (Lit.int .u8 n).wf = true) x) (a2 : Int) (w2 : (Lit.int .i64 a2).wf = true) : ∃ k, clapperlaw08_TlvBack.f k l0 l1 a2 = some true := by
  obtain ⟨k, hk⟩ : ∃ k : Nat, 20000000 ≤ k := ⟨20000000, Nat.le_refl _⟩
  refine ⟨k + 2, ?_⟩
  have ha := bounds_i64 w2
  have hb := okB_of hw1
  unfold clapperlaw08_TlvBack.f clapperlaw08_up.f
  simp only [Option.bind_some]
  by_cases h3 : (l0.length : Int) > 300
  · rw [if_pos h3]
    simp [clapperlaw08_TlvBack.j0]
  rw [if_neg h3]
  simp only [clapperlaw08_TlvBack.j0]
  by_cases h7 : (l1.length : Int) > 70000
  · simp [h7]
  rw [decide_eq_false h7, if_neg (by simp)]
  simp only [Option.bind_some, List.nil_append, List.length_nil]
  obtain ⟨n1, o1⟩ := back_of a2 ha (k + 1) (by omega)
  obtain ⟨n0, o0⟩ := back_of a2 ha k (by omega)
  have hg := tget l1 (k + 1) (by omega) hb (by omega)
  rw [if_pos (by omega), tput l0 (by omega) (k + 1) (by omega)]
  simp only [Option.bind_some]
  have e1 : clapperlaw08_TlvBack.j1 (k + 1) a2 true false = some true := by
    simp only [clapperlaw08_TlvBack.j1]
    rw [if_neg (by simp), n0]
    simp only [Option.bind_some]
    rw [o0]
    by_cases h : a2 < 0
    · simp [h]
    · simp [h, show 0 ≤ a2 by omega]
  have e2 : clapperlaw08_TlvBack.j2 (k + 1) a2 true false = some true := by
    simp only [clapperlaw08_TlvBack.j2]
    rw [if_neg (by simp), n0]
    simp only [Option.bind_some]
    rw [o0]
    by_cases h : a2 < 0
    · simp [h]
    · simp [h, show 0 ≤ a2 by omega]
  have hr : ∀ r, getR [] (dec l1) = (r, none) → tlv_Put.f (k + 1) r = some (l1, none) := by
    intro r hr
    cases hd : dec l1 with
    | none => rw [hd] at hr; simp [getR] at hr
    | some q =>
      rw [hd] at hr
      simp only [getR, List.nil_append] at hr
      split at hr
      · rename_i hm
        simp only [Prod.mk.injEq, and_true] at hr
        subst hr
        have hlen := parse_len _ _ _ hd
        rw [tput q (by omega) (k + 1) (by omega)]
        simp only [putR, hm, if_true]
        rw [put_parse _ _ _ hb hd]
      · simp at hr
  rw [hg]
  generalize getR [] (dec l1) = G at hr
  clear hg
  by_cases hm : may l0 = true
  · simp only [putR, hm, if_true]
    have h1 := may_from hm
    have hlen := putL_max l0 h1.1
    have hlen2 : (putL l0).length ≤ 4194432 := by omega
    have hok := putL_bytes (l := l0) (fun x hx => (hw0 x hx).2.2)
    have hg2 := tget (putL l0) (k + 1) (by omega) hok (by omega)
    rw [hg2, dec_put l0 hm]
    simp only [getR, List.nil_append, hm, if_true, Option.bind_some, Option.isNone_none]
    rw [same l0 (by omega) (k + 1) (by omega)]
    simp only [Option.bind_some, if_true]
    by_cases hn : G.2.isNone = true
    · rw [if_pos hn]
      have hn2 : G = (G.1, none) := by
        rw [← Option.isNone_iff_eq_none.1 hn]
      rw [hr _ hn2]
      simp [e1]
    · rw [if_neg hn, n1]
      simp only [Option.bind_some]
      rw [o1]
      by_cases h : a2 < 0
      · simp [h]
      · simp [h, show 0 ≤ a2 by omega]
  · simp only [putR, hm]
    simp only [Bool.false_eq_true, if_false, Option.isNone_some]
    simp only [Option.bind_some, if_true]
    by_cases hn : G.2.isNone = true
    · rw [if_pos hn]
      have hn2 : G = (G.1, none) := by
        rw [← Option.isNone_iff_eq_none.1 hn]
      rw [hr _ hn2]
      simp [e2]
    · rw [if_neg hn, n1]
      simp only [Option.bind_some]
      rw [o1]
      by_cases h : a2 < 0
      · simp [h]
      · simp [h, show 0 ≤ a2 by omega]
end Go.Proofs.Ytikdfamhgopcdaa.Pure
