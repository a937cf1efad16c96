/- mac.Same; the example ahead of the laws of mac. -/
import Derived.Test.YtinjhmmbndonhaaMb
import Derived.Lib.SlBytesConst
namespace Go.Proofs.Ytinjhmmbndonhaa.PShaSums
open Go.RowKit Go.Proofs.YtinjhmmbndonhaaW.PrintWords Go.Proofs.YtinjhmmbndonhaaW.PrintLast Go.Proofs.YtinjhmmbndonhaaW.PrintMore Go.Proofs.Ytinjhmmbndonhaa.Sha Go.Proofs.Ytinjhmmbndonhaa.Arr
attribute [local go_sem] max2_int min2_int max_two min_two max_three min_three max_four min_four
attribute [local go_sem high] u8_w
set_option linter.unusedVariables false
set_option linter.unusedSimpArgs false
/-- in what the first i bytes are unlike -/
def un (xs ys : List Nat) : Nat → Nat
  | 0 => 0
  | i + 1 => un xs ys i ||| (xs.getD i 0 ^^^ ys.getD i 0)
theorem un_lt (xs ys : List Nat) (hx : Bs xs) (hy : Bs ys) : ∀ i, un xs ys i < 256
  | 0 => Nat.zero_lt_succ _
  | i + 1 => Nat.or_lt_two_pow (n := 8) (un_lt xs ys hx hy i) (Nat.xor_lt_two_pow (n := 8) (hx i) (hy i))
theorem or_zero' (a b : Nat) : a ||| b = 0 ↔ a = 0 ∧ b = 0 := by
  constructor
  · intro h
    have h1 : a ≤ a ||| b := Nat.left_le_or
    have h2 : b ≤ a ||| b := Nat.right_le_or
    omega
  · rintro ⟨rfl, rfl⟩; rfl
theorem xor_zero' (a b : Nat) (h : a ^^^ b = 0) : a = b := by
  have h1 : a ^^^ b ^^^ b = 0 ^^^ b := by rw [h]
  rwa [Nat.xor_assoc, Nat.xor_self, Nat.xor_zero, Nat.zero_xor] at h1
theorem un_zero (xs ys : List Nat) : ∀ n, un xs ys n = 0 ↔ ∀ i, i < n → xs.getD i 0 = ys.getD i 0 := by
  intro n
  induction n with
  | zero => exact ⟨fun _ i hi => absurd hi (by omega), fun _ => rfl⟩
  | succ n ih =>
    show un xs ys n ||| (xs.getD n 0 ^^^ ys.getD n 0) = 0 ↔ _
    rw [or_zero', ih]
    constructor
    · rintro ⟨h1, h2⟩ i hi
      by_cases e : i = n
      · subst e; exact xor_zero' _ _ h2
      · exact h1 i (by omega)
    · intro h
      refine ⟨fun i hi => h i (by omega), ?_⟩
      rw [h n (by omega), Nat.xor_self]
theorem un_eq (xs ys : List Nat) (h : xs.length = ys.length) : decide (un xs ys xs.length = 0) = decide (xs = ys) := by
  by_cases e : xs = ys
  · subst e
    rw [decide_eq_true ((un_zero xs xs xs.length).2 (fun _ _ => rfl))]
    simp
  · rw [decide_eq_false e, decide_eq_false]
    intro hu
    apply e
    apply List.ext_getElem h
    intro i h1 h2
    have := (un_zero xs ys xs.length).1 hu i h1
    rwa [List.getD_eq_getElem?_getD, List.getD_eq_getElem?_getD, List.getElem?_eq_getElem h1, List.getElem?_eq_getElem h2] at this
set_option maxHeartbeats 8000000 in
set_option maxRecDepth 100000 in
theorem same_calls (A0 : Option Addr) (k0 : Nat) (xs : List Nat) (A1 : Option Addr) (k1 : Nat) (ys : List Nat) (w : World) (hr0 : Kd.C (Kd.int .u8) w A0 (cN xs).length (cN xs)) (hr1 : Kd.C (Kd.int .u8) w A1 (cN ys).length (cN ys)) (hx : Bs xs) (hy : Bs ys) (hl : xs.length ≤ 1000000000) :
    Calls Try.prog 20 #[.slice A0 (cN xs).length k0, .slice A1 (cN ys).length k1] w fun e w' => e = .returned (.bool (decide (xs = ys))) ∧ Below w.heap.size w w' := by
  obtain ⟨m0, hm0⟩ : ∃ m, m = (cN xs).length := ⟨_, rfl⟩
  obtain ⟨m1, hm1⟩ : ∃ m, m = (cN ys).length := ⟨_, rfl⟩
  have HR0 := Aside0.mk hr0
  have HR1 := Aside0.mk hr1
  have HX := Aside0.mk (And.intro hx hy)
  have HM : Aside0 (m0 = xs.length ∧ m1 = ys.length) := Aside0.mk ⟨by rw [hm0, cN_length], by rw [hm1, cN_length]⟩
  have HL := Aside0.mk hl
  rw [← hm0, ← hm1]
  clear hr0 hr1 hx hy hl hm0 hm1
  by_cases hne : m0 = m1
  · subst hne
    go_enter Try.func20, Try.ntmps20
    go_wp2
    go_loopw [5, 14] (fun vu vi wr => ∃ i : Nat, i ≤ m0 ∧ vi = .int .i64 (i : Int) ∧ vu = .int .u8 ((un xs ys i : Nat) : Int) ∧ Aside0 (Below w.heap.size w wr))
      (fun _ vi _ => m0 - (intOf vi).toNat)
    case atStart => exact ⟨0, Nat.zero_le _, rfl, rfl, Aside0.mk (Below.refl _ _)⟩
    case round =>
      obtain ⟨i, hi, rfl, rfl, HB⟩ := hrel
      by_cases hlt : i < m0
      · have t1 : (i : Int) < (m0 : Int) := by omega
        obtain ⟨a0, e0, hc0⟩ := kC_cell (Kd.C_below HR0.out HB.out) i (by have := HM.out.1; omega)
        obtain ⟨a1, e1, hc1⟩ := kC_cell (Kd.C_below HR1.out HB.out) i (by have := HM.out.2; omega)
        cases e0
        cases e1
        have hbu := un_lt xs ys HX.out.1 HX.out.2 i
        have hbx := HX.out.1 i
        have hby := HX.out.2 i
        have hsu : un xs ys (i + 1) = un xs ys i ||| (xs.getD i 0 ^^^ ys.getD i 0) := rfl
        obtain ⟨u, hU⟩ : ∃ u, un xs ys i = u := ⟨_, rfl⟩
        rw [hU] at hbu hsu
        rw [hU]
        obtain ⟨x, hX⟩ : ∃ u, xs.getD i 0 = u := ⟨_, rfl⟩
        rw [hX] at hc0 hbx hsu
        obtain ⟨y, hY⟩ : ∃ u, ys.getD i 0 = u := ⟨_, rfl⟩
        rw [hY] at hc1 hby hsu
        obtain ⟨z, hz⟩ : ∃ z, z = x ^^^ y := ⟨_, rfl⟩
        obtain ⟨v, hv⟩ : ∃ v, v = u ||| z := ⟨_, rfl⟩
        have f1 : Go.bits .xor .u8 (x : Int) (y : Int) = (z : Int) := by rw [hz]; exact u8_xor_nat x y hbx hby
        have f2 : Go.bits .or .u8 (u : Int) (z : Int) = (v : Int) := by rw [hv]; exact u8_or_nat u z hbu (by rw [hz]; exact Nat.xor_lt_two_pow (n := 8) hbx hby)
        have HSU : Aside0 (un xs ys (i + 1) = v) := Aside0.mk (by rw [hsu, hv, hz])
        have HLT := Aside0.mk hlt
        clear hU hX hY hz hv hsu hbu hbx hby hlt hi
        go_wp2
        refine start_ (n := 12) (S := fun w' => w'.cell? (a0.add i) = some (.int .u8 (x : Nat)) ∧ w'.cell? (a1.add i) = some (.int .u8 (y : Nat))) (ds := []) #[false, false, false, false, false, false, false, false, false, false, false, false] (by kernel_rfl) rfl rfl ⟨hc0, hc1⟩ (fun hHeld => ?_)
        refine pure_ (i := 0) (N := some 17) (v := ?_) (a' := ?_) #[true, false, false, false, false, false, false, false, false, false, false, false] rfl rfl (by kernel_rfl) (fun _ _ _ h => h) (Or.inl ⟨by rfl, ?_⟩) ?_ ?_
        rotate_left
        · intro w'
          go_simp
          with_reducible rfl
        rotate_left
        · simp only [Act.put, List.setIfInBounds_toArray, List.set_cons_zero, List.set_cons_succ, i64_w, i32_w]
          rfl
        refine pure_ (i := 1) (N := some 18) (v := ?_) (a' := ?_) #[true, true, false, false, false, false, false, false, false, false, false, false] rfl rfl (by kernel_rfl) (fun _ _ _ h => h) (Or.inl ⟨by rfl, ?_⟩) ?_ ?_
        rotate_left
        · intro w'
          go_simp
          with_reducible rfl
        rotate_left
        · simp only [Act.put, List.setIfInBounds_toArray, List.set_cons_zero, List.set_cons_succ, i64_w, i32_w]
          rfl
        refine pure_ (i := 2) (N := some 19) (v := ?_) (a' := ?_) #[true, true, true, false, false, false, false, false, false, false, false, false] rfl rfl (by kernel_rfl) (fun _ _ _ h => h) (Or.inl ⟨by rfl, ?_⟩) ?_ ?_
        rotate_left
        · intro w'
          go_simp
          with_reducible rfl
        rotate_left
        · simp only [Act.put, List.setIfInBounds_toArray, List.set_cons_zero, List.set_cons_succ, i64_w, i32_w]
          rfl
        refine pure_ (i := 3) (N := some 20) (v := ?_) (a' := ?_) #[true, true, true, true, false, false, false, false, false, false, false, false] rfl rfl (by kernel_rfl) (fun _ _ _ h => h) (Or.inl ⟨by rfl, ?_⟩) ?_ ?_
        rotate_left
        · intro w'
          go_simp
          with_reducible rfl
        rotate_left
        · simp only [Act.put, List.setIfInBounds_toArray, List.set_cons_zero, List.set_cons_succ, i64_w, i32_w]
          rfl
        refine pure_ (i := 5) (N := some 22) (v := ?_) (a' := ?_) #[true, true, true, true, false, true, false, false, false, false, false, false] rfl rfl (by kernel_rfl) (fun _ _ _ h => h) (Or.inl ⟨by rfl, ?_⟩) ?_ ?_
        rotate_left
        · intro w'
          go_simp
          with_reducible rfl
        rotate_left
        · simp only [Act.put, List.setIfInBounds_toArray, List.set_cons_zero, List.set_cons_succ, i64_w, i32_w]
          rfl
        refine pure_ (i := 6) (N := some 23) (v := ?_) (a' := ?_) #[true, true, true, true, false, true, true, false, false, false, false, false] rfl rfl (by kernel_rfl) (fun _ _ _ h => h) (Or.inl ⟨by rfl, ?_⟩) ?_ ?_
        rotate_left
        · intro w'
          go_simp
          with_reducible rfl
        rotate_left
        · simp only [Act.put, List.setIfInBounds_toArray, List.set_cons_zero, List.set_cons_succ, i64_w, i32_w]
          rfl
        refine pure_ (i := 7) (N := some 24) (v := ?_) (a' := ?_) #[true, true, true, true, false, true, true, true, false, false, false, false] rfl rfl (by kernel_rfl) (fun _ _ _ h => h) (Or.inl ⟨by rfl, ?_⟩) ?_ ?_
        rotate_left
        · intro w'
          go_simp
          with_reducible rfl
        rotate_left
        · simp only [Act.put, List.setIfInBounds_toArray, List.set_cons_zero, List.set_cons_succ, i64_w, i32_w]
          rfl
        refine take_ (i := 4) (N := some 21) (v := ?_) (a' := ?_) #[true, true, true, true, true, true, true, true, false, false, false, false] rfl rfl (by kernel_rfl) (fun _ _ _ h => h) (Or.inl ⟨by rfl, ?_⟩) hHeld ?_ ?_
        rotate_left
        · rintro w' ⟨s0, s1⟩
          go_simp
          with_reducible rfl
        rotate_left
        · simp only [Act.put, List.setIfInBounds_toArray, List.set_cons_zero, List.set_cons_succ, i64_w, i32_w]
          rfl
        refine take_ (i := 8) (N := some 25) (v := ?_) (a' := ?_) #[true, true, true, true, true, true, true, true, true, false, false, false] rfl rfl (by kernel_rfl) (fun _ _ _ h => h) (Or.inl ⟨by rfl, ?_⟩) hHeld ?_ ?_
        rotate_left
        · rintro w' ⟨s0, s1⟩
          go_simp
          with_reducible rfl
        rotate_left
        · simp only [Act.put, List.setIfInBounds_toArray, List.set_cons_zero, List.set_cons_succ, i64_w, i32_w]
          rfl
        refine pure_ (i := 9) (N := some 26) (v := ?_) (a' := ?_) #[true, true, true, true, true, true, true, true, true, true, false, false] rfl rfl (by kernel_rfl) (fun _ _ _ h => h) (Or.inl ⟨by rfl, ?_⟩) ?_ ?_
        rotate_left
        · intro w'
          go_simp
          with_reducible rfl
        rotate_left
        · simp only [Act.put, List.setIfInBounds_toArray, List.set_cons_zero, List.set_cons_succ, i64_w, i32_w]
          rfl
        refine pure_ (i := 10) (N := some 27) (v := ?_) (a' := ?_) #[true, true, true, true, true, true, true, true, true, true, true, false] rfl rfl (by kernel_rfl) (fun _ _ _ h => h) (Or.inl ⟨by rfl, ?_⟩) ?_ ?_
        rotate_left
        · intro w'
          go_simp
          with_reducible rfl
        rotate_left
        · simp only [Act.put, List.setIfInBounds_toArray, List.set_cons_zero, List.set_cons_succ, i64_w, i32_w]
          rfl
        refine pure_ (i := 11) (N := some 5) (v := ?_) (a' := ?_) #[true, true, true, true, true, true, true, true, true, true, true, true] rfl rfl (by kernel_rfl) (fun _ _ _ h => h) (Or.inl ⟨by rfl, ?_⟩) ?_ ?_
        rotate_left
        · intro w'
          go_simp
          with_reducible rfl
        rotate_left
        · simp only [Act.put, List.setIfInBounds_toArray, List.set_cons_zero, List.set_cons_succ, i64_w, i32_w]
          rfl
        refine done_ (by kernel_rfl) ?_
        clear hHeld
        have v9 : wrap64 ((i : Int) + 1) = (i : Int) + 1 := by have := HL.out; have := HM.out.1; have := HLT.out; unfold wrap64; omega
        go_wp2
        try rw [v9]
        refine ⟨⟨i + 1, HLT.out, by rw [Int.natCast_add]; rfl, by rw [HSU.out], Aside0.mk HB.out.drew⟩, ?_⟩
        have := HLT.out
        show m0 - ((i : Int) + 1).toNat < m0 - (i : Int).toNat
        omega
      · have hi' : i = m0 := by omega
        have t1 : (m0 : Int) ≤ (i : Int) := by omega
        have HE : Aside0 (decide (un xs ys i = 0) = decide (xs = ys)) := Aside0.mk (by rw [hi', HM.out.1]; exact un_eq xs ys (HM.out.1.symm.trans HM.out.2))
        obtain ⟨u, hU⟩ : ∃ u, un xs ys i = u := ⟨_, rfl⟩
        rw [hU] at HE
        rw [hU]
        have hb : ((u : Int) == 0) = decide (xs = ys) := by rw [← HE.out, Bool.eq_iff_iff, beq_iff_eq, decide_eq_true_eq]; omega
        clear hlt hi hi' hU
        go_wp2
        go_ret
        exact ⟨by first | rfl | (rw [← hb]; rfl), HB.out⟩
  · have d1 : ((m0 : Int) != (m1 : Int)) = true := by simp; omega
    have HE : Aside0 (decide (xs = ys) = false) := Aside0.mk (decide_eq_false (fun e => hne (by rw [HM.out.1, HM.out.2, e])))
    clear hne
    go_enter Try.func20, Try.ntmps20
    go_wp2
    go_ret
    exact ⟨by rw [HE.out]; rfl, Below.refl _ _⟩
theorem mac_jefe : macOf [74, 101, 102, 101] [119, 104, 97, 116, 32, 100, 111, 32, 121, 97, 32, 119, 97, 110, 116, 32, 102, 111, 114, 32, 110, 111, 116, 104, 105, 110, 103, 63] = [91, 220, 193, 70, 191, 96, 117, 78, 106, 4, 36, 38, 8, 149, 117, 199, 90, 0, 63, 8, 157, 39, 57, 131, 157, 236, 88, 185, 100, 236, 56, 67] := by decide +kernel
end Go.Proofs.Ytinjhmmbndonhaa.PShaSums
