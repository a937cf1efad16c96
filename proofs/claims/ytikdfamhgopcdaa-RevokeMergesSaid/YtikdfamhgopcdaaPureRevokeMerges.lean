/- RevokeMerges, the plain law: the printed functions answer true for every input. -/
import Derived.Test.YtikdfamhgopcdaaRaRevokeMerges
namespace Go.Proofs.Ytikdfamhgopcdaa.Pure
open Go.RowKit Go.ChangeShapes Go.WideShapes Go.Proofs.Ytikdfamhgopcdaa.PRevokeMerges Go.Proofs.YtikdfamhgopcdaaW.PrintWords Go.Proofs.YtikdfamhgopcdaaW.PrintLast Go.Proofs.YtikdfamhgopcdaaW.PrintMore
set_option linter.unusedVariables false
set_option linter.unusedSimpArgs false
theorem rmay_l0 (l : List R) (hl : l.length ≤ 9223372036854775806) : ∀ (d i k : Nat) (last : Int) (hi : i + d = l.length), d < k → (i = 0 → last = 0) → (∀ h : 0 < i, 1 ≤ last ∧ last = (l[i - 1]'(by omega)).f0) →
    clapperref11_May.l0 k l (i : Int) = some (okFrom last (l.drop i) && decide ((l.length : Int) ≤ 200)) := by
  intro d
  induction d with
  | zero =>
    intro i k last hi hk _ _
    obtain ⟨k, rfl, hk⟩ := succ_k hk
    simp only [clapperref11_May.l0]
    rw [if_neg (by omega), List.drop_of_length_le (by omega)]
    simp [okFrom]
  | succ d ih =>
    intro i k last hi hk h0 hp
    obtain ⟨k, rfl, hk⟩ := succ_k hk
    have hlt : i < l.length := by omega
    simp only [clapperref11_May.l0]
    rw [if_pos (by omega), if_pos (by omega), rdR_eq l i hlt, drop_at hlt]
    simp only [okFrom]
    by_cases h1 : l[i].f0 < 1
    · rw [if_pos h1]; simp [show ¬ 1 ≤ l[i].f0 by omega]
    rw [if_neg h1]
    by_cases h2 : l[i].f0 > 2147483647
    · rw [if_pos h2]; simp [show ¬ l[i].f0 ≤ 2147483647 by omega]
    rw [if_neg h2]
    by_cases h3 : l[i].f1 < 0
    · rw [if_pos h3]; simp [show ¬ 0 ≤ l[i].f1 by omega]
    rw [if_neg h3]
    by_cases h4 : l[i].f1 > 1073741824
    · rw [if_pos h4]; simp [show ¬ l[i].f1 ≤ 1073741824 by omega]
    rw [if_neg h4]
    have next : last < l[i].f0 → clapperref11_May.l0 k l (wrap64 ((i : Int) + 1)) = some (okFrom l[i].f0 (l.drop (i + 1)) && decide ((l.length : Int) ≤ 200)) := by
      intro hlt2
      rw [wrap_id (by omega) (by omega)]
      exact ih (i + 1) k l[i].f0 (by omega) (by omega) (fun h => by omega) (fun h => ⟨by omega, by simp⟩)
    by_cases hi0 : (i : Int) > 0
    · have hpos : 0 < i := by omega
      obtain ⟨hp1, hp2⟩ := hp hpos
      have e : wrap64 ((i : Int) - 1) = ((i - 1 : Nat) : Int) := by rw [wrap_id (by omega) (by omega)]; omega
      rw [if_pos hi0, e, if_pos (by omega), if_pos (by omega), rdR_eq l (i - 1) (by omega), ← hp2]
      by_cases h5 : l[i].f0 ≤ last
      · rw [if_pos h5]; simp [show ¬ last < l[i].f0 by omega]
      · rw [if_neg h5, next (by omega)]
        simp [show 1 ≤ l[i].f0 by omega, show l[i].f0 ≤ 2147483647 by omega, show 0 ≤ l[i].f1 by omega, show l[i].f1 ≤ 1073741824 by omega, show last < l[i].f0 by omega]
    · have hz := h0 (by omega)
      rw [if_neg hi0, next (by omega)]
      simp [show 1 ≤ l[i].f0 by omega, show l[i].f0 ≤ 2147483647 by omega, show 0 ≤ l[i].f1 by omega, show l[i].f1 ≤ 1073741824 by omega, show last < l[i].f0 by omega]
theorem rmay (l : List R) (hl : l.length ≤ 9223372036854775806) (k : Nat) (hk : l.length < k) : clapperref11_May.f k l = some (okL l) := by
  have := rmay_l0 l hl l.length 0 k 0 (by omega) hk (fun _ => rfl) (fun h => absurd h (Nat.lt_irrefl 0))
  simpa [clapperref11_May.f, okL] using this
/-- one put in among others -/
def ins : List R → R → List R
  | [], y => [y]
  | x :: r, y => if x.f0 < y.f0 then x :: ins r y else if x.f0 = y.f0 then ⟨x.f0, mn x.f1 y.f1⟩ :: r else y :: x :: r
theorem ins_len (a : List R) (y : R) : (ins a y).length ≤ a.length + 1 := by
  induction a with
  | nil => simp [ins]
  | cons x r ih =>
    simp only [ins]
    split
    · simp only [List.length_cons]; omega
    · split <;> simp
theorem ins_mrg (a : List R) (y : R) (b : List R) (hb : ∀ z, z ∈ b → y.f0 < z.f0) : mrg (ins a y) b = mrg a (y :: b) := by
  have first : ∀ (x : R) (r : List R), (∀ z, z ∈ b → x.f0 < z.f0) → mrg (x :: r) b = x :: mrg r b := by
    intro x r h
    cases b with
    | nil => rw [mrg_nil, mrg_nil]
    | cons z b => rw [mrg_cons, if_pos (h z (by simp))]
  induction a with
  | nil =>
    rw [nil_mrg]
    show mrg [y] b = y :: b
    rw [first y [] hb, nil_mrg]
  | cons x r ih =>
    rw [mrg_cons]
    simp only [ins]
    by_cases h1 : x.f0 < y.f0
    · rw [if_pos h1, if_pos h1, first x _ (fun z hz => by have := hb z hz; omega), ih]
    · rw [if_neg h1, if_neg h1]
      by_cases h2 : x.f0 = y.f0
      · rw [if_pos h2, if_neg (by omega), first _ _ (fun z hz => by have := hb z hz; show x.f0 < z.f0; omega)]
      · rw [if_neg h2, if_pos (by omega), first y _ hb]
theorem fold_mrg : ∀ (b a : List R) (last : Int), okFrom last b = true → b.foldl ins a = mrg a b := by
  intro b
  induction b with
  | nil => intro a last _; rw [mrg_nil]; rfl
  | cons y b ih =>
    intro a last h
    simp only [okFrom, Bool.and_eq_true] at h
    rw [List.foldl_cons, ih (ins a y) y.f0 h.2.2.2.2.2, ins_mrg _ _ _ (ok_sorted h.2.2.2.2.2).1]
theorem set_at (pre r : List R) (x z : R) : (pre ++ x :: r).set pre.length z = pre ++ z :: r := by
  rw [List.set_append_right _ _ (Nat.le_refl _)]
  simp
theorem rd_mid (pre r : List R) (x : R) : rd_T61 (pre ++ x :: r) (pre.length : Int) = x := by
  rw [rdR_eq _ _ (by simp)]
  simp
theorem scan (b : List R) (i : Nat) (hi : i < b.length) (res : List R) : ∀ (rest pre : List R) (K k : Nat), clapperref11_Merge.l0 K b (pre ++ ins rest b[i]) (wrap64 ((i : Int) + 1)) = some res → K + rest.length + 3 ≤ k → pre.length + rest.length ≤ 5000 →
    clapperref11_Merge.l1 k b (pre ++ rest) (i : Int) (pre.length : Int) = some res := by
  have up : ∀ (K k : Nat) (o : List R) (j : Int), clapperref11_Merge.l0 K b o j = some res → K ≤ k → clapperref11_Merge.l0 k b o j = some res := fun K k o j h hk => at_rounds (g := fun k => clapperref11_Merge.l0 k b o j) (fun k => (clapperref11_Merge.mono_l k).1 _ _ _) hk h
  have eb : rd_T61 b (i : Int) = b[i] := rdR_eq b i hi
  have put : ∀ (rest pre : List R) (K k : Nat), clapperref11_Merge.l0 K b (pre ++ b[i] :: rest) (wrap64 ((i : Int) + 1)) = some res → K + 1 ≤ k → pre.length + rest.length ≤ 5000 → clapperref11_Merge.j3 k b (pre ++ rest) (i : Int) (pre.length : Int) false = some res := by
    intro rest pre K k h hk hl
    obtain ⟨k, rfl, hk2⟩ := succ_k (show K < k by omega)
    simp only [clapperref11_Merge.j3, Option.bind_some]
    rw [if_neg (by simp), if_pos (by omega), if_pos (by simp; omega)]
    simp only [Option.bind_some, List.nil_append, List.length_nil, Int.toNat_natCast, List.take_left', List.drop_left']
    rw [if_pos (by omega), if_pos (by omega), if_pos (by omega), if_pos (by omega), eb]
    rw [if_pos (by simp; omega)]
    have e : pre ++ [(⟨b[i].f0, b[i].f1⟩ : R)] ++ rest = pre ++ b[i] :: rest := by simp
    rw [e]
    exact up K k _ _ h hk2
  intro rest
  induction rest with
  | nil =>
    intro pre K k h hk hl
    simp only [List.length_nil] at hk hl
    obtain ⟨k, rfl, hk2⟩ := succ_k (show K + 2 < k by omega)
    obtain ⟨k, rfl, hk3⟩ := succ_k (show K + 1 < k by omega)
    simp only [clapperref11_Merge.l1, clapperref11_Merge.j2]
    rw [if_neg (by simp), if_neg (by simp)]
    exact put [] pre K k (by simpa [ins] using h) (by omega) (by simpa using hl)
  | cons x r ih =>
    intro pre K k h hk hl
    simp only [List.length_cons] at hk hl
    obtain ⟨k, rfl, hk2⟩ := succ_k (show K + r.length + 3 < k by omega)
    simp only [clapperref11_Merge.l1]
    rw [if_pos (by simp; omega), if_pos (by omega), if_pos (by omega), if_pos (by omega), rd_mid, eb]
    simp only [ins] at h
    by_cases h1 : x.f0 < b[i].f0
    · rw [if_pos h1] at h
      rw [if_pos h1, wrap_id (by omega) (by omega)]
      have := ih (pre ++ [x]) K k (by simpa using h) (by omega) (by simp; omega)
      simpa using this
    · rw [if_neg h1] at h
      rw [if_neg h1]
      obtain ⟨k, rfl, hk3⟩ := succ_k (show K + r.length + 2 < k by omega)
      simp only [clapperref11_Merge.j2]
      rw [if_pos (by simp; omega), if_pos (by omega), if_pos (by omega), if_pos (by omega), rd_mid, eb]
      by_cases h2 : x.f0 = b[i].f0
      · rw [if_pos h2] at h
        have e2 : (x.f0 == b[i].f0) = true := beq_iff_eq.2 h2
        rw [e2]
        obtain ⟨k, rfl, hk4⟩ := succ_k (show K + r.length + 1 < k by omega)
        simp only [clapperref11_Merge.j3]
        rw [if_pos trivial, if_pos (by omega), if_pos (by omega), if_pos (by omega), if_pos (by simp; omega), rd_mid, eb]
        by_cases h3 : b[i].f1 < x.f1
        · rw [if_pos h3, Int.toNat_natCast, set_at]
          have : mn x.f1 b[i].f1 = b[i].f1 := by unfold mn; rw [if_pos h3]
          rw [this] at h
          exact up K k _ _ h (by omega)
        · rw [if_neg h3]
          have : mn x.f1 b[i].f1 = x.f1 := by unfold mn; rw [if_neg h3]
          rw [this] at h
          exact up K k _ _ h (by omega)
      · rw [if_neg h2] at h
        have e2 : (x.f0 == b[i].f0) = false := beq_eq_false_iff_ne.2 h2
        rw [e2]
        exact put (x :: r) pre K k h (by omega) (by simpa using hl)
theorem rmerge_l0 (b : List R) (hb : b.length ≤ 1000) : ∀ (d i : Nat) (a : List R), i + d = b.length → a.length + d ≤ 2000 → ∃ K, K ≤ d * 2010 + 1 ∧ clapperref11_Merge.l0 K b a (i : Int) = some ((b.drop i).foldl ins a) := by
  intro d
  induction d with
  | zero =>
    intro i a hi ha
    refine ⟨1, by omega, ?_⟩
    simp only [clapperref11_Merge.l0]
    rw [if_neg (by omega), List.drop_of_length_le (by omega)]
    rfl
  | succ d ih =>
    intro i a hi ha
    have hlt : i < b.length := by omega
    obtain ⟨K, hK, hr⟩ := ih (i + 1) (ins a b[i]) (by omega) (by have := ins_len a b[i]; omega)
    refine ⟨K + a.length + 4, by omega, ?_⟩
    simp only [clapperref11_Merge.l0]
    rw [if_pos (by omega), drop_at hlt, List.foldl_cons]
    have := scan b i hlt ((b.drop (i + 1)).foldl ins (ins a b[i])) a [] K (K + a.length + 3) (by rw [wrap_id (by omega) (by omega)]; simpa using hr) (by omega) (by simp; omega)
    simpa using this
theorem rmerge (a b : List R) (hb : okL b = true) (ha : a.length ≤ 1000) (k : Nat) (hk : 500000 ≤ k) : clapperref11_Merge.f k a b = some (mrg a b) := by
  have l2 := ok_len hb
  unfold clapperref11_Merge.f
  simp only [Option.bind_some, List.nil_append, List.length_nil]
  rw [if_pos (by omega)]
  obtain ⟨K, hK, hr⟩ := rmerge_l0 b (by omega) b.length 0 a (by omega) (by omega)
  rw [List.drop_zero, fold_mrg b a 0 l2.1] at hr
  exact at_rounds (g := fun k => clapperref11_Merge.l0 k b a 0) (fun k => (clapperref11_Merge.mono_l k).1 _ _ _) (by omega) hr
theorem RevokeMerges (l0 : List S61) (hm0 : l0.length ≤ maxLen) (hw0 : ∀ x, x ∈ l0 → (fun x => (Lit.int .i64 x.f0).wf = true ∧ (Lit.int .i64 x.f1).wf = true) x) (l1 : List S61) (hm1 : l1.length ≤ maxLen) (hw1 : ∀ x, x ∈ l1 → (fun x => (Lit.int .i64 x.f0).wf = true ∧ (Lit.int .i64 x.f1).wf = true) x) : ∃ k, clapperlaw11_RevokeMerges.f k l0 l1 = some true := by
  obtain ⟨k, hk⟩ : ∃ k : Nat, 500000 ≤ k := ⟨500000, Nat.le_refl _⟩
  refine ⟨k + 2, ?_⟩
  unfold clapperlaw11_RevokeMerges.f
  rw [up_ok _ (by omega)]
  simp only [Option.bind_some, clapperlaw11_RevokeMerges.j0]
  by_cases h3 : (l0.length : Int) > 300
  · rw [if_pos h3]; simp
  rw [if_neg h3]
  by_cases h4 : (l1.length : Int) > 300
  · simp [h4]
  rw [decide_eq_false h4, if_neg (by simp), pmerge l0 l1 (by omega) (by omega) (k + 1) (by omega) (by omega) (by omega), rmay l0 (by omega) (k + 1) (by omega), rmay l1 (by omega) (k + 1) (by omega)]
  simp only [Option.bind_some, clapperlaw11_RevokeMerges.j1]
  by_cases h0 : okL l0 = true
  · by_cases h1 : okL l1 = true
    · have n0 := ok_len h0
      have n1 := ok_len h1
      have hlen := mrg_len _ l0 l1 (Nat.le_refl _)
      simp only [h0, h1, mergeR, and_self, if_true, Bool.not_true, Bool.false_eq_true, if_false]
      rw [rmerge l0 l1 h1 (by omega) k hk]
      simp only [Option.bind_some]
      by_cases hg : ((mrg l0 l1).length : Int) > 200
      · simp [hg]
      · simp only [hg, if_false]
        simp [rsame (mrg l0 l1) (by omega) k (by omega)]
    · simp [h0, h1, mergeR]
  · simp [h0, mergeR]
end Go.Proofs.Ytikdfamhgopcdaa.Pure
