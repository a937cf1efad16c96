/- What the proof of NonceMore is made of, part 7. -/
import Derived.Test.YtojlhmmmiebbmaaZNonceMore6
namespace Go.Proofs.Ytojlhmmmiebbmaa.PNonceLists
open Go.RowKit Go.Proofs.YtojlhmmmiebbmaaW.PrintWords Go.Proofs.YtojlhmmmiebbmaaW.PrintLast Go.Proofs.YtojlhmmmiebbmaaW.PrintMore Go.Proofs.Ytojlhmmmiebbmaa.Sha Go.Proofs.Ytojlhmmmiebbmaa.Arr
attribute [local go_sem] max2_int min2_int max_two min_two max_three min_three max_four min_four
attribute [local go_sem high] u8_w
set_option linter.unusedVariables false
set_option linter.unusedSimpArgs false
theorem wp_at {P : Program} {c : Code} {Q : Exit → Act → World → Prop} {a : Act} {w1 w2 : World} (h : w1 = w2) (H : Code.wp P c Q a w2) : Code.wp P c Q a w1 := h ▸ H
def z64 : List Nat := List.replicate 64 0
theorem kC_cell {w : World} {A : Option Addr} {b : List Nat} (h : Kd.C (Kd.int .u8) w A (cN b).length (cN b)) (i : Nat) (hi : i < b.length) : ∃ ad, A = some ad ∧ w.cell? (ad.add i) = some (.int .u8 (b.getD i 0 : Nat)) := by
  obtain ⟨ad, c, e, _, hK, hc0⟩ := Kd.C_get h (0 : Int) (i : Int) (by omega) (by rw [cN_length]; omega)
  obtain rfl : c = [.int .u8 ((cN b).getD ((i : Int)).toNat 0)] := hK
  have h0 := hc0 0 _ rfl
  refine ⟨ad, e, ?_⟩
  have e2 : (cN b).getD ((i : Int)).toNat 0 = ((b.getD i 0 : Nat) : Int) := rd_cN b i
  rw [e2] at h0
  have e3 : (Kd.int IntKind.u8).sz = 1 := rfl
  rw [e3, Int.toNat_natCast, Nat.mul_one, Nat.add_zero] at h0
  exact h0
theorem or4 (x0 x1 x2 x3 : Nat) (h0 : x0 < 256) (h1 : x1 < 256) (h2 : x2 < 256) (h3 : x3 < 256) :
    Go.bits .or .u32 (Go.bits .or .u32 (Go.bits .or .u32 ((x0 * 16777216 : Nat) : Int) ((x1 * 65536 : Nat) : Int)) ((x2 * 256 : Nat) : Int)) (x3 : Int) = ((x0 * 16777216 + x1 * 65536 + x2 * 256 + x3 : Nat) : Int) := by
  have a1 : x0 * 16777216 ||| x1 * 65536 = x0 * 16777216 + x1 * 65536 := by
    have := Nat.two_pow_add_eq_or_of_lt (i := 24) (b := x1 * 65536) (by omega) x0
    rw [Nat.mul_comm x0, ← this]
  have a2 : (x0 * 16777216 + x1 * 65536) ||| x2 * 256 = x0 * 16777216 + x1 * 65536 + x2 * 256 := by
    have := Nat.two_pow_add_eq_or_of_lt (i := 16) (b := x2 * 256) (by omega) (x0 * 256 + x1)
    rw [show (2 : Nat) ^ 16 * (x0 * 256 + x1) = x0 * 16777216 + x1 * 65536 by omega] at this
    rw [← this]
  have a3 : (x0 * 16777216 + x1 * 65536 + x2 * 256) ||| x3 = x0 * 16777216 + x1 * 65536 + x2 * 256 + x3 := by
    have := Nat.two_pow_add_eq_or_of_lt (i := 8) (b := x3) (by omega) (x0 * 65536 + x1 * 256 + x2)
    rw [show (2 : Nat) ^ 8 * (x0 * 65536 + x1 * 256 + x2) = x0 * 16777216 + x1 * 65536 + x2 * 256 by omega] at this
    rw [← this]
  rw [u32_or_nat _ _ (by omega) (by omega), a1, u32_or_nat _ _ (by omega) (by omega), a2, u32_or_nat _ _ (by omega) (by omega), a3]
theorem first_set (b : List Nat) (k n : Nat) (h : k < n) : (first b k ++ List.replicate (n - k) 0).set k (word b k) = first b (k + 1) ++ List.replicate (n - (k + 1)) 0 := by
  have hl : (first b k).length = k := by simp [first]
  have e : n - k = (n - (k + 1)) + 1 := by omega
  rw [List.set_append_right _ _ (by omega), hl, Nat.sub_self, e, List.replicate_succ, List.set_cons_zero]
  simp [first, List.range_succ]
theorem wl_length (b : List Nat) (n : Nat) : (wl b n).length = 16 + n := by
  induction n with
  | zero => simp [wl, first]
  | succ n ih => rw [wl, List.length_append, ih]; simp; omega
theorem getD_app (a c : List Nat) (i : Nat) (h : i < a.length) : (a ++ c).getD i 0 = a.getD i 0 := by
  rw [List.getD_eq_getElem?_getD, List.getD_eq_getElem?_getD, List.getElem?_append_left h]
theorem wl_set (b : List Nat) (n : Nat) (h : n < 48) : (wl b n ++ List.replicate (48 - n) 0).set (16 + n) (nextw (wl b n) (16 + n)) = wl b (n + 1) ++ List.replicate (48 - (n + 1)) 0 := by
  have hl := wl_length b n
  have e : 48 - n = (48 - (n + 1)) + 1 := by omega
  rw [List.set_append_right _ _ (by omega), hl, Nat.sub_self, e, List.replicate_succ, List.set_cons_zero, wl, List.append_assoc]
  rfl
theorem word_lt (b : List Nat) (h8 : ∀ i, b.getD i 0 < 256) (k : Nat) : word b k < 4294967296 := by
  have h0 := h8 (4 * k)
  have h1 := h8 (4 * k + 1)
  have h2 := h8 (4 * k + 2)
  have h3 := h8 (4 * k + 3)
  unfold word
  omega
theorem wl_mem (b : List Nat) (h8 : ∀ i, b.getD i 0 < 256) (n : Nat) : ∀ x ∈ wl b n, x < 4294967296 := by
  induction n with
  | zero => intro x hx; obtain ⟨i, _, rfl⟩ := List.mem_map.1 hx; exact word_lt b h8 i
  | succ n ih =>
    intro x hx
    rw [wl, List.mem_append] at hx
    rcases hx with hx | hx
    · exact ih x hx
    · rw [List.mem_singleton] at hx; subst hx; exact add2_lt _ _
theorem wl_lt (b : List Nat) (h8 : ∀ i, b.getD i 0 < 256) (n i : Nat) : (wl b n).getD i 0 < 4294967296 := by
  by_cases h : i < (wl b n).length
  · rw [List.getD_eq_getElem?_getD, List.getElem?_eq_getElem h]; exact wl_mem b h8 n _ (List.getElem_mem h)
  · rw [List.getD_eq_getElem?_getD, List.getElem?_eq_none (by omega)]; exact Nat.zero_lt_succ _
set_option maxHeartbeats 4000000 in
set_option maxRecDepth 100000 in
theorem words_calls (A0 : Option Addr) (c0 : Nat) (b : List Nat) (w : World) (hr0 : Kd.C (Kd.int .u8) w A0 (cN b).length (cN b)) (hb : b.length = 64) (h8 : ∀ i, b.getD i 0 < 256) :
    Calls Try.prog 53 #[.slice A0 64 c0] w fun e w' => e = .returned (.agg (ints .u32 (cN (wl b 48))).toArray) ∧ Below w.heap.size w w' := by
  have HR := Aside0.mk hr0
  have HL := Aside0.mk hb
  have H8 := Aside0.mk h8
  clear hr0 hb h8
  go_enter Try.func53, Try.ntmps53
  go_upto_region 2 with (fail)
  refine wp_at (w2 := (w.alloc (.cells (ints .u32 (cN z64)).toArray 92)).alloc (.cells (ints .u32 (cN z64)).toArray 92)) rfl ?_
  have hA0 : Arr .u32 92 ((w.alloc (.cells (ints .u32 (cN z64)).toArray 92)).alloc (.cells (ints .u32 (cN z64)).toArray 92)) w.heap.size (cN z64) := (Arr.new w .u32 _ _).alloc _
  have hA1 : Arr .u32 92 ((w.alloc (.cells (ints .u32 (cN z64)).toArray 92)).alloc (.cells (ints .u32 (cN z64)).toArray 92)) (w.heap.size + 1) (cN z64) := by
    have := Arr.new (w.alloc (.cells (ints .u32 (cN z64)).toArray 92)) .u32 92 (cN z64)
    rwa [show (w.alloc (.cells (ints .u32 (cN z64)).toArray 92)).heap.size = w.heap.size + 1 by simp] at this
  have hB : Below w.heap.size w ((w.alloc (.cells (ints .u32 (cN z64)).toArray 92)).alloc (.cells (ints .u32 (cN z64)).toArray 92)) := below_alloc (below_alloc (Below.refl _ _) _) _
  have HA0 := Aside0.mk hA0
  have HA1 := Aside0.mk hA1
  have HB := Aside0.mk hB
  clear hA0 hA1 hB
  generalize (w.alloc (.cells (ints .u32 (cN z64)).toArray 92)).alloc (.cells (ints .u32 (cN z64)).toArray 92) = w1 at *
  go_wp2
  go_loopw [10] (fun v wr => ∃ k : Nat, k ≤ 16 ∧ v = .int .i64 k ∧ Aside0 (Arr .u32 92 wr (w.heap.size + 1) (cN (first b k ++ List.replicate (64 - k) 0))) ∧ Aside0 (Arr .u32 92 wr w.heap.size (cN z64)) ∧ Aside0 (Below w.heap.size w wr))
    (fun v _ => 16 - (intOf v).toNat)
  case atStart => exact ⟨0, by omega, rfl, HA1, HA0, HB⟩
  case round =>
    clear HA0 HA1 HB
    obtain ⟨k, hk, rfl, HA1, HA0, HB⟩ := hrel
    by_cases hlt : k < 16
    · have hBw := Kd.C_below HR.out HB.out
      have HBw := Aside0.mk hBw
      clear hBw
      obtain ⟨ad, eA, hc0⟩ := kC_cell HBw.out (4 * k) (by have := HL.out; omega)
      obtain ⟨ad1, eA1, hc1⟩ := kC_cell HBw.out (4 * k + 1) (by have := HL.out; omega)
      obtain ⟨ad2, eA2, hc2⟩ := kC_cell HBw.out (4 * k + 2) (by have := HL.out; omega)
      obtain ⟨ad3, eA3, hc3⟩ := kC_cell HBw.out (4 * k + 3) (by have := HL.out; omega)
      cases eA
      cases eA1
      cases eA2
      cases eA3
      have hx0 := H8.out (4 * k)
      have hx1 := H8.out (4 * k + 1)
      have hx2 := H8.out (4 * k + 2)
      have hx3 := H8.out (4 * k + 3)
      have hW : word b k = b.getD (4 * k) 0 * 16777216 + b.getD (4 * k + 1) 0 * 65536 + b.getD (4 * k + 2) 0 * 256 + b.getD (4 * k + 3) 0 := rfl
      have HW := Aside0.mk hW
      clear hW
      have hor := or4 _ _ _ _ hx0 hx1 hx2 hx3
      generalize b.getD (4 * k) 0 = x0 at *
      generalize b.getD (4 * k + 1) 0 = x1 at *
      generalize b.getD (4 * k + 2) 0 = x2 at *
      generalize b.getD (4 * k + 3) 0 = x3 at *
      have HOR := Aside0.mk hor
      clear hor
      have hlen : (cN (first b k ++ List.replicate (64 - k) 0)).length = 64 := by rw [cN_length, List.length_append, List.length_replicate, first, List.length_map, List.length_range]; omega
      have hcw := HA1.out.cell k (by rw [hlen]; omega)
      have hfw := HA1.out.free k
      have HLEN := Aside0.mk hlen
      clear hlen
      obtain ⟨i0, e0⟩ : ∃ i : Nat, i = 4 * k := ⟨_, rfl⟩
      obtain ⟨i1, e1⟩ : ∃ i : Nat, i = 4 * k + 1 := ⟨_, rfl⟩
      obtain ⟨i2, e2⟩ : ∃ i : Nat, i = 4 * k + 2 := ⟨_, rfl⟩
      obtain ⟨i3, e3⟩ : ∃ i : Nat, i = 4 * k + 3 := ⟨_, rfl⟩
      rw [← e0] at hc0
      rw [← e1] at hc1
      rw [← e2] at hc2
      rw [← e3] at hc3
      have v0 : wrap64 (4 * (k : Int)) = (i0 : Int) := by unfold wrap64; omega
      have t0 : (i0 : Int) < 64 := by omega
      have v1 : wrap64 ((i0 : Int) + 1) = (i1 : Int) := by unfold wrap64; omega
      have t1 : (i1 : Int) < 64 := by omega
      have v2 : wrap64 ((i0 : Int) + 2) = (i2 : Int) := by unfold wrap64; omega
      have t2 : (i2 : Int) < 64 := by omega
      have v3 : wrap64 ((i0 : Int) + 3) = (i3 : Int) := by unfold wrap64; omega
      have t3 : (i3 : Int) < 64 := by omega
      have t4 : (k : Int) < 64 := by omega
      have HE := Aside0.mk (And.intro e0 (And.intro e1 (And.intro e2 e3)))
      clear e0 e1 e2 e3
      go_wp2
      refine start_ (n := 36) (S := fun w' => w'.cell? (ad.add i0) = some (.int .u8 (x0 : Nat)) ∧ w'.cell? (ad.add i1) = some (.int .u8 (x1 : Nat)) ∧ w'.cell? (ad.add i2) = some (.int .u8 (x2 : Nat)) ∧ w'.cell? (ad.add i3) = some (.int .u8 (x3 : Nat))) (ds := [35]) #[false, false, false, false, false, false, false, false, false, false, false, false, false, false, false, false, false, false, false, false, false, false, false, false, false, false, false, false, false, false, false, false, false, false, false, false] (by kernel_rfl) rfl rfl ⟨hc0, hc1, hc2, hc3⟩ (fun hHeld => ?_)
      refine pure_ (i := 0) (N := some 13) (v := ?_) (a' := ?_) #[true, false, false, false, false, false, false, false, false, false, false, false, false, false, false, false, false, false, false, false, false, false, false, false, false, false, false, false, false, false, false, false, false, false, false, false] rfl rfl (by kernel_rfl) (fun _ _ _ h => h) (Or.inl ⟨by rfl, ?_⟩) ?_ ?_
      rotate_left
      · intro w'
        go_simp
        with_reducible rfl
      rotate_left
      · simp only [Act.put, List.setIfInBounds_toArray, List.set_cons_zero, List.set_cons_succ, i64_w, i32_w]
        rfl
      refine pure_ (i := 1) (N := some 14) (v := ?_) (a' := ?_) #[true, true, false, false, false, false, false, false, false, false, false, false, false, false, false, false, false, false, false, false, false, false, false, false, false, false, false, false, false, false, false, false, false, false, false, false] rfl rfl (by kernel_rfl) (fun _ _ _ h => h) (Or.inl ⟨by rfl, ?_⟩) ?_ ?_
      rotate_left
      · intro w'
        go_simp
        with_reducible rfl
      rotate_left
      · simp only [Act.put, List.setIfInBounds_toArray, List.set_cons_zero, List.set_cons_succ, i64_w, i32_w]
        rfl
      refine pure_ (i := 2) (N := some 15) (v := ?_) (a' := ?_) #[true, true, true, false, false, false, false, false, false, false, false, false, false, false, false, false, false, false, false, false, false, false, false, false, false, false, false, false, false, false, false, false, false, false, false, false] rfl rfl (by kernel_rfl) (fun _ _ _ h => h) (Or.inl ⟨by rfl, ?_⟩) ?_ ?_
      rotate_left
      · intro w'
        go_simp
        with_reducible rfl
      rotate_left
      · simp only [Act.put, List.setIfInBounds_toArray, List.set_cons_zero, List.set_cons_succ, i64_w, i32_w]
        rfl
      refine pure_ (i := 3) (N := some 16) (v := ?_) (a' := ?_) #[true, true, true, true, false, false, false, false, false, false, false, false, false, false, false, false, false, false, false, false, false, false, false, false, false, false, false, false, false, false, false, false, false, false, false, false] rfl rfl (by kernel_rfl) (fun _ _ _ h => h) (Or.inl ⟨by rfl, ?_⟩) ?_ ?_
      rotate_left
      · intro w'
        go_simp
        with_reducible rfl
      rotate_left
      · simp only [Act.put, List.setIfInBounds_toArray, List.set_cons_zero, List.set_cons_succ, i64_w, i32_w]
        rfl
      refine pure_ (i := 4) (N := some 17) (v := ?_) (a' := ?_) #[true, true, true, true, true, false, false, false, false, false, false, false, false, false, false, false, false, false, false, false, false, false, false, false, false, false, false, false, false, false, false, false, false, false, false, false] rfl rfl (by kernel_rfl) (fun _ _ _ h => h) (Or.inl ⟨by rfl, ?_⟩) ?_ ?_
      rotate_left
      · intro w'
        go_simp
        with_reducible rfl
      rotate_left
      · simp only [Act.put, List.setIfInBounds_toArray, List.set_cons_zero, List.set_cons_succ, i64_w, i32_w]
        rfl
      refine pure_ (i := 8) (N := some 21) (v := ?_) (a' := ?_) #[true, true, true, true, true, false, false, false, true, false, false, false, false, false, false, false, false, false, false, false, false, false, false, false, false, false, false, false, false, false, false, false, false, false, false, false] rfl rfl (by kernel_rfl) (fun _ _ _ h => h) (Or.inl ⟨by rfl, ?_⟩) ?_ ?_
      rotate_left
      · intro w'
        go_simp
        with_reducible rfl
      rotate_left
      · simp only [Act.put, List.setIfInBounds_toArray, List.set_cons_zero, List.set_cons_succ, i64_w, i32_w]
        rfl
      refine pure_ (i := 9) (N := some 22) (v := ?_) (a' := ?_) #[true, true, true, true, true, false, false, false, true, true, false, false, false, false, false, false, false, false, false, false, false, false, false, false, false, false, false, false, false, false, false, false, false, false, false, false] rfl rfl (by kernel_rfl) (fun _ _ _ h => h) (Or.inl ⟨by rfl, ?_⟩) ?_ ?_
      rotate_left
      · intro w'
        go_simp
        with_reducible rfl
      rotate_left
      · simp only [Act.put, List.setIfInBounds_toArray, List.set_cons_zero, List.set_cons_succ, i64_w, i32_w]
        rfl
      refine pure_ (i := 10) (N := some 23) (v := ?_) (a' := ?_) #[true, true, true, true, true, false, false, false, true, true, true, false, false, false, false, false, false, false, false, false, false, false, false, false, false, false, false, false, false, false, false, false, false, false, false, false] rfl rfl (by kernel_rfl) (fun _ _ _ h => h) (Or.inl ⟨by rfl, ?_⟩) ?_ ?_
      rotate_left
      · intro w'
        go_simp
        with_reducible rfl
      rotate_left
      · simp only [Act.put, List.setIfInBounds_toArray, List.set_cons_zero, List.set_cons_succ, i64_w, i32_w]
        rfl
      refine pure_ (i := 11) (N := some 24) (v := ?_) (a' := ?_) #[true, true, true, true, true, false, false, false, true, true, true, true, false, false, false, false, false, false, false, false, false, false, false, false, false, false, false, false, false, false, false, false, false, false, false, false] rfl rfl (by kernel_rfl) (fun _ _ _ h => h) (Or.inl ⟨by rfl, ?_⟩) ?_ ?_
      rotate_left
      · intro w'
        go_simp
        with_reducible rfl
      rotate_left
      · simp only [Act.put, List.setIfInBounds_toArray, List.set_cons_zero, List.set_cons_succ, i64_w, i32_w]
        rfl
      refine pure_ (i := 12) (N := some 25) (v := ?_) (a' := ?_) #[true, true, true, true, true, false, false, false, true, true, true, true, true, false, false, false, false, false, false, false, false, false, false, false, false, false, false, false, false, false, false, false, false, false, false, false] rfl rfl (by kernel_rfl) (fun _ _ _ h => h) (Or.inl ⟨by rfl, ?_⟩) ?_ ?_
      rotate_left
      · intro w'
        go_simp
        with_reducible rfl
      rotate_left
      · simp only [Act.put, List.setIfInBounds_toArray, List.set_cons_zero, List.set_cons_succ, i64_w, i32_w]
        rfl
      refine pure_ (i := 17) (N := some 30) (v := ?_) (a' := ?_) #[true, true, true, true, true, false, false, false, true, true, true, true, true, false, false, false, false, true, false, false, false, false, false, false, false, false, false, false, false, false, false, false, false, false, false, false] rfl rfl (by kernel_rfl) (fun _ _ _ h => h) (Or.inl ⟨by rfl, ?_⟩) ?_ ?_
      rotate_left
      · intro w'
        go_simp
        with_reducible rfl
      rotate_left
      · simp only [Act.put, List.setIfInBounds_toArray, List.set_cons_zero, List.set_cons_succ, i64_w, i32_w]
        rfl
      refine pure_ (i := 18) (N := some 31) (v := ?_) (a' := ?_) #[true, true, true, true, true, false, false, false, true, true, true, true, true, false, false, false, false, true, true, false, false, false, false, false, false, false, false, false, false, false, false, false, false, false, false, false] rfl rfl (by kernel_rfl) (fun _ _ _ h => h) (Or.inl ⟨by rfl, ?_⟩) ?_ ?_
      rotate_left
      · intro w'
        go_simp
        with_reducible rfl
      rotate_left
      · simp only [Act.put, List.setIfInBounds_toArray, List.set_cons_zero, List.set_cons_succ, i64_w, i32_w]
        rfl
      refine pure_ (i := 19) (N := some 32) (v := ?_) (a' := ?_) #[true, true, true, true, true, false, false, false, true, true, true, true, true, false, false, false, false, true, true, true, false, false, false, false, false, false, false, false, false, false, false, false, false, false, false, false] rfl rfl (by kernel_rfl) (fun _ _ _ h => h) (Or.inl ⟨by rfl, ?_⟩) ?_ ?_
      rotate_left
      · intro w'
        go_simp
        with_reducible rfl
      rotate_left
      · simp only [Act.put, List.setIfInBounds_toArray, List.set_cons_zero, List.set_cons_succ, i64_w, i32_w]
        rfl
      refine pure_ (i := 20) (N := some 33) (v := ?_) (a' := ?_) #[true, true, true, true, true, false, false, false, true, true, true, true, true, false, false, false, false, true, true, true, true, false, false, false, false, false, false, false, false, false, false, false, false, false, false, false] rfl rfl (by kernel_rfl) (fun _ _ _ h => h) (Or.inl ⟨by rfl, ?_⟩) ?_ ?_
      rotate_left
      · intro w'
        go_simp
        with_reducible rfl
      rotate_left
      · simp only [Act.put, List.setIfInBounds_toArray, List.set_cons_zero, List.set_cons_succ, i64_w, i32_w]
        rfl
      refine pure_ (i := 21) (N := some 34) (v := ?_) (a' := ?_) #[true, true, true, true, true, false, false, false, true, true, true, true, true, false, false, false, false, true, true, true, true, true, false, false, false, false, false, false, false, false, false, false, false, false, false, false] rfl rfl (by kernel_rfl) (fun _ _ _ h => h) (Or.inl ⟨by rfl, ?_⟩) ?_ ?_
      rotate_left
      · intro w'
        go_simp
        with_reducible rfl
      rotate_left
      · simp only [Act.put, List.setIfInBounds_toArray, List.set_cons_zero, List.set_cons_succ, i64_w, i32_w]
        rfl
      refine pure_ (i := 26) (N := some 39) (v := ?_) (a' := ?_) #[true, true, true, true, true, false, false, false, true, true, true, true, true, false, false, false, false, true, true, true, true, true, false, false, false, false, true, false, false, false, false, false, false, false, false, false] rfl rfl (by kernel_rfl) (fun _ _ _ h => h) (Or.inl ⟨by rfl, ?_⟩) ?_ ?_
      rotate_left
      · intro w'
        go_simp
        with_reducible rfl
      rotate_left
      · simp only [Act.put, List.setIfInBounds_toArray, List.set_cons_zero, List.set_cons_succ, i64_w, i32_w]
        rfl
      refine pure_ (i := 27) (N := some 40) (v := ?_) (a' := ?_) #[true, true, true, true, true, false, false, false, true, true, true, true, true, false, false, false, false, true, true, true, true, true, false, false, false, false, true, true, false, false, false, false, false, false, false, false] rfl rfl (by kernel_rfl) (fun _ _ _ h => h) (Or.inl ⟨by rfl, ?_⟩) ?_ ?_
      rotate_left
      · intro w'
        go_simp
        with_reducible rfl
      rotate_left
      · simp only [Act.put, List.setIfInBounds_toArray, List.set_cons_zero, List.set_cons_succ, i64_w, i32_w]
        rfl
      refine pure_ (i := 28) (N := some 41) (v := ?_) (a' := ?_) #[true, true, true, true, true, false, false, false, true, true, true, true, true, false, false, false, false, true, true, true, true, true, false, false, false, false, true, true, true, false, false, false, false, false, false, false] rfl rfl (by kernel_rfl) (fun _ _ _ h => h) (Or.inl ⟨by rfl, ?_⟩) ?_ ?_
      rotate_left
      · intro w'
        go_simp
        with_reducible rfl
      rotate_left
      · simp only [Act.put, List.setIfInBounds_toArray, List.set_cons_zero, List.set_cons_succ, i64_w, i32_w]
        rfl
      refine pure_ (i := 29) (N := some 42) (v := ?_) (a' := ?_) #[true, true, true, true, true, false, false, false, true, true, true, true, true, false, false, false, false, true, true, true, true, true, false, false, false, false, true, true, true, true, false, false, false, false, false, false] rfl rfl (by kernel_rfl) (fun _ _ _ h => h) (Or.inl ⟨by rfl, ?_⟩) ?_ ?_
      rotate_left
      · intro w'
        go_simp
        with_reducible rfl
      rotate_left
      · simp only [Act.put, List.setIfInBounds_toArray, List.set_cons_zero, List.set_cons_succ, i64_w, i32_w]
        rfl
      refine pure_ (i := 30) (N := some 43) (v := ?_) (a' := ?_) #[true, true, true, true, true, false, false, false, true, true, true, true, true, false, false, false, false, true, true, true, true, true, false, false, false, false, true, true, true, true, true, false, false, false, false, false] rfl rfl (by kernel_rfl) (fun _ _ _ h => h) (Or.inl ⟨by rfl, ?_⟩) ?_ ?_
      rotate_left
      · intro w'
        go_simp
        with_reducible rfl
      rotate_left
      · simp only [Act.put, List.setIfInBounds_toArray, List.set_cons_zero, List.set_cons_succ, i64_w, i32_w]
        rfl
      refine take_ (i := 5) (N := some 18) (v := ?_) (a' := ?_) #[true, true, true, true, true, true, false, false, true, true, true, true, true, false, false, false, false, true, true, true, true, true, false, false, false, false, true, true, true, true, true, false, false, false, false, false] rfl rfl (by kernel_rfl) (fun _ _ _ h => h) (Or.inl ⟨by rfl, ?_⟩) hHeld ?_ ?_
      rotate_left
      · rintro w' ⟨s0, s1, s2, s3⟩
        go_simp
        with_reducible rfl
      rotate_left
      · simp only [Act.put, List.setIfInBounds_toArray, List.set_cons_zero, List.set_cons_succ, i64_w, i32_w]
        rfl
      refine pure_ (i := 6) (N := some 19) (v := ?_) (a' := ?_) #[true, true, true, true, true, true, true, false, true, true, true, true, true, false, false, false, false, true, true, true, true, true, false, false, false, false, true, true, true, true, true, false, false, false, false, false] rfl rfl (by kernel_rfl) (fun _ _ _ h => h) (Or.inl ⟨by rfl, ?_⟩) ?_ ?_
      rotate_left
      · intro w'
        go_simp
        with_reducible rfl
      rotate_left
      · simp only [Act.put, List.setIfInBounds_toArray, List.set_cons_zero, List.set_cons_succ, i64_w, i32_w]
        rfl
      refine pure_ (i := 7) (N := some 20) (v := ?_) (a' := ?_) #[true, true, true, true, true, true, true, true, true, true, true, true, true, false, false, false, false, true, true, true, true, true, false, false, false, false, true, true, true, true, true, false, false, false, false, false] rfl rfl (by kernel_rfl) (fun _ _ _ h => h) (Or.inl ⟨by rfl, ?_⟩) ?_ ?_
      rotate_left
      · intro w'
        go_simp
        with_reducible rfl
      rotate_left
      · simp only [Act.put, List.setIfInBounds_toArray, List.set_cons_zero, List.set_cons_succ, i64_w, i32_w]
        rfl
      refine take_ (i := 13) (N := some 26) (v := ?_) (a' := ?_) #[true, true, true, true, true, true, true, true, true, true, true, true, true, true, false, false, false, true, true, true, true, true, false, false, false, false, true, true, true, true, true, false, false, false, false, false] rfl rfl (by kernel_rfl) (fun _ _ _ h => h) (Or.inl ⟨by rfl, ?_⟩) hHeld ?_ ?_
      rotate_left
      · rintro w' ⟨s0, s1, s2, s3⟩
        go_simp
        with_reducible rfl
      rotate_left
      · simp only [Act.put, List.setIfInBounds_toArray, List.set_cons_zero, List.set_cons_succ, i64_w, i32_w]
        rfl
      refine pure_ (i := 14) (N := some 27) (v := ?_) (a' := ?_) #[true, true, true, true, true, true, true, true, true, true, true, true, true, true, true, false, false, true, true, true, true, true, false, false, false, false, true, true, true, true, true, false, false, false, false, false] rfl rfl (by kernel_rfl) (fun _ _ _ h => h) (Or.inl ⟨by rfl, ?_⟩) ?_ ?_
      rotate_left
      · intro w'
        go_simp
        with_reducible rfl
      rotate_left
      · simp only [Act.put, List.setIfInBounds_toArray, List.set_cons_zero, List.set_cons_succ, i64_w, i32_w]
        rfl
      refine pure_ (i := 15) (N := some 28) (v := ?_) (a' := ?_) #[true, true, true, true, true, true, true, true, true, true, true, true, true, true, true, true, false, true, true, true, true, true, false, false, false, false, true, true, true, true, true, false, false, false, false, false] rfl rfl (by kernel_rfl) (fun _ _ _ h => h) (Or.inl ⟨by rfl, ?_⟩) ?_ ?_
      rotate_left
      · intro w'
        go_simp
        with_reducible rfl
      rotate_left
      · simp only [Act.put, List.setIfInBounds_toArray, List.set_cons_zero, List.set_cons_succ, i64_w, i32_w]
        rfl
      refine pure_ (i := 16) (N := some 29) (v := ?_) (a' := ?_) #[true, true, true, true, true, true, true, true, true, true, true, true, true, true, true, true, true, true, true, true, true, true, false, false, false, false, true, true, true, true, true, false, false, false, false, false] rfl rfl (by kernel_rfl) (fun _ _ _ h => h) (Or.inl ⟨by rfl, ?_⟩) ?_ ?_
      rotate_left
      · intro w'
        go_simp
        with_reducible rfl
      rotate_left
      · simp only [Act.put, List.setIfInBounds_toArray, List.set_cons_zero, List.set_cons_succ, i64_w, i32_w]
        rfl
      refine take_ (i := 22) (N := some 35) (v := ?_) (a' := ?_) #[true, true, true, true, true, true, true, true, true, true, true, true, true, true, true, true, true, true, true, true, true, true, true, false, false, false, true, true, true, true, true, false, false, false, false, false] rfl rfl (by kernel_rfl) (fun _ _ _ h => h) (Or.inl ⟨by rfl, ?_⟩) hHeld ?_ ?_
      rotate_left
      · rintro w' ⟨s0, s1, s2, s3⟩
        go_simp
        with_reducible rfl
      rotate_left
      · simp only [Act.put, List.setIfInBounds_toArray, List.set_cons_zero, List.set_cons_succ, i64_w, i32_w]
        rfl
      refine pure_ (i := 23) (N := some 36) (v := ?_) (a' := ?_) #[true, true, true, true, true, true, true, true, true, true, true, true, true, true, true, true, true, true, true, true, true, true, true, true, false, false, true, true, true, true, true, false, false, false, false, false] rfl rfl (by kernel_rfl) (fun _ _ _ h => h) (Or.inl ⟨by rfl, ?_⟩) ?_ ?_
      rotate_left
      · intro w'
        go_simp
        with_reducible rfl
      rotate_left
      · simp only [Act.put, List.setIfInBounds_toArray, List.set_cons_zero, List.set_cons_succ, i64_w, i32_w]
        rfl
      refine pure_ (i := 24) (N := some 37) (v := ?_) (a' := ?_) #[true, true, true, true, true, true, true, true, true, true, true, true, true, true, true, true, true, true, true, true, true, true, true, true, true, false, true, true, true, true, true, false, false, false, false, false] rfl rfl (by kernel_rfl) (fun _ _ _ h => h) (Or.inl ⟨by rfl, ?_⟩) ?_ ?_
      rotate_left
      · intro w'
        go_simp
        with_reducible rfl
      rotate_left
      · simp only [Act.put, List.setIfInBounds_toArray, List.set_cons_zero, List.set_cons_succ, i64_w, i32_w]
        rfl
      refine pure_ (i := 25) (N := some 38) (v := ?_) (a' := ?_) #[true, true, true, true, true, true, true, true, true, true, true, true, true, true, true, true, true, true, true, true, true, true, true, true, true, true, true, true, true, true, true, false, false, false, false, false] rfl rfl (by kernel_rfl) (fun _ _ _ h => h) (Or.inl ⟨by rfl, ?_⟩) ?_ ?_
      rotate_left
      · intro w'
        go_simp
        with_reducible rfl
      rotate_left
      · simp only [Act.put, List.setIfInBounds_toArray, List.set_cons_zero, List.set_cons_succ, i64_w, i32_w]
        rfl
      refine take_ (i := 31) (N := some 44) (v := ?_) (a' := ?_) #[true, true, true, true, true, true, true, true, true, true, true, true, true, true, true, true, true, true, true, true, true, true, true, true, true, true, true, true, true, true, true, true, false, false, false, false] rfl rfl (by kernel_rfl) (fun _ _ _ h => h) (Or.inl ⟨by rfl, ?_⟩) hHeld ?_ ?_
      rotate_left
      · rintro w' ⟨s0, s1, s2, s3⟩
        go_simp
        with_reducible rfl
      rotate_left
      · simp only [Act.put, List.setIfInBounds_toArray, List.set_cons_zero, List.set_cons_succ, i64_w, i32_w]
        rfl
      refine pure_ (i := 32) (N := some 45) (v := ?_) (a' := ?_) #[true, true, true, true, true, true, true, true, true, true, true, true, true, true, true, true, true, true, true, true, true, true, true, true, true, true, true, true, true, true, true, true, true, false, false, false] rfl rfl (by kernel_rfl) (fun _ _ _ h => h) (Or.inl ⟨by rfl, ?_⟩) ?_ ?_
      rotate_left
      · intro w'
        go_simp
        with_reducible rfl
      rotate_left
      · simp only [Act.put, List.setIfInBounds_toArray, List.set_cons_zero, List.set_cons_succ, i64_w, i32_w]
        rfl
      refine pure_ (i := 33) (N := some 46) (v := ?_) (a' := ?_) #[true, true, true, true, true, true, true, true, true, true, true, true, true, true, true, true, true, true, true, true, true, true, true, true, true, true, true, true, true, true, true, true, true, true, false, false] rfl rfl (by kernel_rfl) (fun _ _ _ h => h) (Or.inl ⟨by rfl, ?_⟩) ?_ ?_
      rotate_left
      · intro w'
        go_simp
        with_reducible rfl
      rotate_left
      · simp only [Act.put, List.setIfInBounds_toArray, List.set_cons_zero, List.set_cons_succ, i64_w, i32_w]
        rfl
      refine pure_ (i := 34) (N := some 47) (v := ?_) (a' := ?_) #[true, true, true, true, true, true, true, true, true, true, true, true, true, true, true, true, true, true, true, true, true, true, true, true, true, true, true, true, true, true, true, true, true, true, true, false] rfl rfl (by kernel_rfl) (fun _ _ _ h => h) (Or.inl ⟨by rfl, ?_⟩) ?_ ?_
      rotate_left
      · intro w'
        go_simp
        with_reducible rfl
      rotate_left
      · simp only [Act.put, List.setIfInBounds_toArray, List.set_cons_zero, List.set_cons_succ, i64_w, i32_w]
        rfl
      refine last_ (i := 35) (N := none) #[true, true, true, true, true, true, true, true, true, true, true, true, true, true, true, true, true, true, true, true, true, true, true, true, true, true, true, true, true, true, true, true, true, true, true, true] rfl rfl (by kernel_rfl) (by decide) (fun K hK => ?_)
      refine skip_ (w1 := ?_) (by rfl) rfl ?_ ?_
      rotate_left
      · go_simp
        rfl
      refine hK.out _ _ ?_
      clear hK K
      refine done_ (by kernel_rfl) ?_
      have hv : Go.bits .or .u32 (Go.bits .or .u32 (Go.bits .or .u32 (IntKind.u32.wrap (IntKind.u32.wrap (x0 : Int) * 16777216)) (IntKind.u32.wrap (IntKind.u32.wrap (x1 : Int) * 65536))) (IntKind.u32.wrap (IntKind.u32.wrap (x2 : Int) * 256))) (IntKind.u32.wrap (x3 : Int)) = ((word b k : Nat) : Int) := by
        rw [HW.out, ← HOR.out]
        congr 1
        · congr 1
          · congr 1
            · rw [IntKind.wrap_u32, IntKind.wrap_u32]; omega
            · rw [IntKind.wrap_u32, IntKind.wrap_u32]; omega
          · rw [IntKind.wrap_u32, IntKind.wrap_u32]; omega
        · rw [IntKind.wrap_u32]; omega
      rw [hv]
      have hA1 := (HA1.out.set k (word b k : Int)).drew
      have hA0 := ((HA0.out.other (p := ⟨w.heap.size + 1, k, none⟩) (by show w.heap.size ≠ w.heap.size + 1; omega) (.int .u32 (word b k : Int)))).drew
      have hB := (HB.out.setCell (p := ⟨w.heap.size + 1, k, none⟩) (by show w.heap.size ≤ w.heap.size + 1; omega) (.int .u32 (word b k : Int))).drew
      rw [cN_set, first_set b k 64 (by omega)] at hA1
      have HA1' := Aside0.mk hA1
      have HA0' := Aside0.mk hA0
      have HB' := Aside0.mk hB
      clear hA1 hA0 hB HA1 HA0 HB hcw hfw hv hc0 hc1 hc2 hc3 hHeld HBw
      generalize World.drew (World.setCell wr ⟨w.heap.size + 1, k, none⟩ (.int .u32 (word b k : Int))) = w2 at *
      clear v0 v1 v2 v3 t0 t1 t2 t3 t4
      go_wp2
      exact ⟨⟨k + 1, by omega, by rw [Int.natCast_add]; rfl, HA1', HA0', HB'⟩, by show 16 - ((k : Int) + 1).toNat < 16 - (k : Int).toNat; omega⟩
    · have hk16 : k = 16 := by omega
      subst hk16
      rw [show ((16 : Nat) : Int) = 16 from rfl]
      clear hlt
      go_wp2
      go_loopw [5] (fun v wr => ∃ m n : Nat, m = 16 + n ∧ n ≤ 48 ∧ v = .int .i64 (m : Int) ∧ Aside0 (Arr .u32 92 wr (w.heap.size + 1) (cN (wl b n ++ List.replicate (48 - n) 0))) ∧ Aside0 (Arr .u32 92 wr w.heap.size (cN z64)) ∧ Aside0 (Below w.heap.size w wr))
        (fun v _ => 64 - (intOf v).toNat)
      case atStart => exact ⟨16, 0, rfl, by omega, rfl, HA1, HA0, HB⟩
      case round =>
        clear HA0 HA1 HB
        obtain ⟨m, n, hm, hn, rfl, HA1, HA0, HB⟩ := hrel
        by_cases hlt : n < 48
        · have hlt' : (m : Int) < 64 := by omega
          have hlen : (cN (wl b n ++ List.replicate (48 - n) 0)).length = 64 := by rw [cN_length, List.length_append, List.length_replicate, wl_length]; omega
          obtain ⟨j1, f1⟩ : ∃ i : Nat, i = n + 1 := ⟨_, rfl⟩
          obtain ⟨j2, f2⟩ : ∃ i : Nat, i = n + 14 := ⟨_, rfl⟩
          obtain ⟨j3, f3⟩ : ∃ i : Nat, i = n + 9 := ⟨_, rfl⟩
          have hc1 := HA1.out.cell j1 (by rw [hlen]; omega)
          have hc2 := HA1.out.cell j2 (by rw [hlen]; omega)
          have hc3 := HA1.out.cell j3 (by rw [hlen]; omega)
          have hc4 := HA1.out.cell n (by rw [hlen]; omega)
          have hc5 := HA1.out.cell m (by rw [hlen]; omega)
          have hf5 := HA1.out.free m
          rw [rd_cN, getD_app _ _ _ (by rw [wl_length]; omega)] at hc1 hc2 hc3 hc4
          have q1 : wrap64 ((m : Int) - 15) = (j1 : Int) := by unfold wrap64; omega
          have q2 : wrap64 ((m : Int) - 2) = (j2 : Int) := by unfold wrap64; omega
          have q3 : wrap64 ((m : Int) - 7) = (j3 : Int) := by unfold wrap64; omega
          have q4 : wrap64 ((m : Int) - 16) = (n : Int) := by unfold wrap64; omega
          have t1 : (j1 : Int) < 64 := by omega
          have t2 : (j2 : Int) < 64 := by omega
          have t3 : (j3 : Int) < 64 := by omega
          have t4 : (n : Int) < 64 := by omega
          have x1 := wl_lt b H8.out n j1
          have x2 := wl_lt b H8.out n j2
          have hN : nextw (wl b n) (16 + n) = add2 (add2 (add2 (sm1 ((wl b n).getD j2 0)) ((wl b n).getD j3 0)) (sm0 ((wl b n).getD j1 0))) ((wl b n).getD n 0) := by
            unfold nextw
            rw [f1, f2, f3]
            congr 3 <;> congr 2 <;> omega
          have HN := Aside0.mk hN
          clear hN
          generalize (wl b n).getD j1 0 = y1 at *
          generalize (wl b n).getD j2 0 = y2 at *
          generalize (wl b n).getD j3 0 = y3 at *
          generalize (wl b n).getD n 0 = y4 at *
          have X1 := Aside0.mk x1
          have X2 := Aside0.mk x2
          have HF := Aside0.mk (And.intro hm (And.intro f1 (And.intro f2 f3)))
          have HL := Aside0.mk hlen
          clear x1 x2 f1 f2 f3 hlen hm
          go_wp2
          refine start_ (n := 10) (S := fun w' => w'.cell? ⟨w.heap.size + 1, j1, none⟩ = some (.int .u32 (y1 : Nat)) ∧ w'.cell? ⟨w.heap.size + 1, j2, none⟩ = some (.int .u32 (y2 : Nat))) (ds := []) #[false, false, false, false, false, false, false, false, false, false] (by kernel_rfl) rfl rfl ⟨hc1, hc2⟩ (fun hHeld => ?_)
          refine pure_ (i := 0) (N := some 53) (v := ?_) (a' := ?_) #[true, false, false, false, false, false, false, false, false, false] rfl rfl (by kernel_rfl) (fun _ _ _ h => h) (Or.inl ⟨by rfl, ?_⟩) ?_ ?_
          rotate_left
          · intro w'
            go_simp
            with_reducible rfl
          rotate_left
          · simp only [Act.put, List.setIfInBounds_toArray, List.set_cons_zero, List.set_cons_succ, i64_w, i32_w]
            rfl
          refine pure_ (i := 1) (N := some 54) (v := ?_) (a' := ?_) #[true, true, false, false, false, false, false, false, false, false] rfl rfl (by kernel_rfl) (fun _ _ _ h => h) (Or.inl ⟨by rfl, ?_⟩) ?_ ?_
          rotate_left
          · intro w'
            go_simp
            with_reducible rfl
          rotate_left
          · simp only [Act.put, List.setIfInBounds_toArray, List.set_cons_zero, List.set_cons_succ, i64_w, i32_w]
            rfl
          refine pure_ (i := 2) (N := some 55) (v := ?_) (a' := ?_) #[true, true, true, false, false, false, false, false, false, false] rfl rfl (by kernel_rfl) (fun _ _ _ h => h) (Or.inl ⟨by rfl, ?_⟩) ?_ ?_
          rotate_left
          · intro w'
            go_simp
            with_reducible rfl
          rotate_left
          · simp only [Act.put, List.setIfInBounds_toArray, List.set_cons_zero, List.set_cons_succ, i64_w, i32_w]
            rfl
          refine pure_ (i := 4) (N := some 57) (v := ?_) (a' := ?_) #[true, true, true, false, true, false, false, false, false, false] rfl rfl (by kernel_rfl) (fun _ _ _ h => h) (Or.inl ⟨by rfl, ?_⟩) ?_ ?_
          rotate_left
          · intro w'
            go_simp
            with_reducible rfl
          rotate_left
          · simp only [Act.put, List.setIfInBounds_toArray, List.set_cons_zero, List.set_cons_succ, i64_w, i32_w]
            rfl
          refine pure_ (i := 5) (N := some 58) (v := ?_) (a' := ?_) #[true, true, true, false, true, true, false, false, false, false] rfl rfl (by kernel_rfl) (fun _ _ _ h => h) (Or.inl ⟨by rfl, ?_⟩) ?_ ?_
          rotate_left
          · intro w'
            go_simp
            with_reducible rfl
          rotate_left
          · simp only [Act.put, List.setIfInBounds_toArray, List.set_cons_zero, List.set_cons_succ, i64_w, i32_w]
            rfl
          refine pure_ (i := 6) (N := some 59) (v := ?_) (a' := ?_) #[true, true, true, false, true, true, true, false, false, false] rfl rfl (by kernel_rfl) (fun _ _ _ h => h) (Or.inl ⟨by rfl, ?_⟩) ?_ ?_
          rotate_left
          · intro w'
            go_simp
            with_reducible rfl
          rotate_left
          · simp only [Act.put, List.setIfInBounds_toArray, List.set_cons_zero, List.set_cons_succ, i64_w, i32_w]
            rfl
          refine take_ (i := 3) (N := some 56) (v := ?_) (a' := ?_) #[true, true, true, true, true, true, true, false, false, false] rfl rfl (by kernel_rfl) (fun _ _ _ h => h) (Or.inl ⟨by rfl, ?_⟩) hHeld ?_ ?_
          rotate_left
          · rintro w' ⟨s0, s1⟩
            go_simp
            with_reducible rfl
          rotate_left
          · simp only [Act.put, List.setIfInBounds_toArray, List.set_cons_zero, List.set_cons_succ, i64_w, i32_w]
            rfl
          refine pure_ (i := 8) (N := some 6) (v := ?_) (a' := ?_) #[true, true, true, true, true, true, true, false, true, false] rfl rfl (by kernel_rfl) (fun _ _ _ h => h) (Or.inl ⟨by rfl, ?_⟩) ?_ ?_
          rotate_left
          · intro w'
            go_simp
            with_reducible rfl
          rotate_left
          · simp only [Act.put, List.setIfInBounds_toArray, List.set_cons_zero, List.set_cons_succ, i64_w, i32_w]
            rfl
          refine take_ (i := 7) (N := some 60) (v := ?_) (a' := ?_) #[true, true, true, true, true, true, true, true, true, false] rfl rfl (by kernel_rfl) (fun _ _ _ h => h) (Or.inl ⟨by rfl, ?_⟩) hHeld ?_ ?_
          rotate_left
          · rintro w' ⟨s0, s1⟩
            go_simp
            with_reducible rfl
          rotate_left
          · simp only [Act.put, List.setIfInBounds_toArray, List.set_cons_zero, List.set_cons_succ, i64_w, i32_w]
            rfl
          refine pure_ (i := 9) (N := some 7) (v := ?_) (a' := ?_) #[true, true, true, true, true, true, true, true, true, true] rfl rfl (by kernel_rfl) (fun _ _ _ h => h) (Or.inl ⟨by rfl, ?_⟩) ?_ ?_
          rotate_left
          · intro w'
            go_simp
            with_reducible rfl
          rotate_left
          · simp only [Act.put, List.setIfInBounds_toArray, List.set_cons_zero, List.set_cons_succ, i64_w, i32_w]
            rfl
          refine done_ (by kernel_rfl) ?_
          clear hHeld
          go_wp2_with (first | ((with_reducible refine gate_callee (f := 63) rfl ?_); refine goesL_ (some 62) rfl rfl Try.func63 (by kernel_rfl) rfl #[.int .u32 (y1 : Int), .int .i64 (-7)] rfl (by (try simp only [List.map_toArray, List.map_cons, List.map_nil]); first | done | rfl) ?_; (with_reducible refine (bits_RotateLeft32.calls y1 (-7) _ _ (rot7 y1 X1.out)).mono ?_); rintro e w' ⟨rfl, ⟨n1, rfl⟩⟩; refine ⟨_, rfl, ?_⟩) | ((with_reducible refine gate_callee (f := 63) rfl ?_); refine goesL_ (some 64) rfl rfl Try.func63 (by kernel_rfl) rfl #[.int .u32 (y1 : Int), .int .i64 (-18)] rfl (by (try simp only [List.map_toArray, List.map_cons, List.map_nil]); first | done | rfl) ?_; (with_reducible refine (bits_RotateLeft32.calls y1 (-18) _ _ (rot18 y1 X1.out)).mono ?_); rintro e w' ⟨rfl, ⟨n2, rfl⟩⟩; refine ⟨_, rfl, ?_⟩) | ((with_reducible refine gate_callee (f := 63) rfl ?_); refine goesL_ (some 70) rfl rfl Try.func63 (by kernel_rfl) rfl #[.int .u32 (y2 : Int), .int .i64 (-17)] rfl (by (try simp only [List.map_toArray, List.map_cons, List.map_nil]); first | done | rfl) ?_; (with_reducible refine (bits_RotateLeft32.calls y2 (-17) _ _ (rot17 y2 X2.out)).mono ?_); rintro e w' ⟨rfl, ⟨n3, rfl⟩⟩; refine ⟨_, rfl, ?_⟩) | ((with_reducible refine gate_callee (f := 63) rfl ?_); refine goesL_ (some 72) rfl rfl Try.func63 (by kernel_rfl) rfl #[.int .u32 (y2 : Int), .int .i64 (-19)] rfl (by (try simp only [List.map_toArray, List.map_cons, List.map_nil]); first | done | rfl) ?_; (with_reducible refine (bits_RotateLeft32.calls y2 (-19) _ _ (rot19 y2 X2.out)).mono ?_); rintro e w' ⟨rfl, ⟨n4, rfl⟩⟩; refine ⟨_, rfl, ?_⟩))
          have z1 : Go.bits .xor .u32 (Go.bits .xor .u32 ((rotr y1 7 : Nat) : Int) ((rotr y1 18 : Nat) : Int)) ((y1 : Int) / 8) = ((sm0 y1 : Nat) : Int) := by
            have r1 := rotr_lt y1 7 X1.out (by omega)
            have r2 := rotr_lt y1 18 X1.out (by omega)
            have x1 := X1.out
            rw [show (y1 : Int) / 8 = ((y1 / 8 : Nat) : Int) by omega, xor2 _ _ r1 r2, xor2 _ _ (xor_lt _ _ r1 r2) (by omega)]
            rfl
          have z2 : Go.bits .xor .u32 (Go.bits .xor .u32 ((rotr y2 17 : Nat) : Int) ((rotr y2 19 : Nat) : Int)) ((y2 : Int) / 1024) = ((sm1 y2 : Nat) : Int) := by
            have r1 := rotr_lt y2 17 X2.out (by omega)
            have r2 := rotr_lt y2 19 X2.out (by omega)
            have x2 := X2.out
            rw [show (y2 : Int) / 1024 = ((y2 / 1024 : Nat) : Int) by omega, xor2 _ _ r1 r2, xor2 _ _ (xor_lt _ _ r1 r2) (by omega)]
            rfl
          rw [z1, z2]
          clear z1 z2
          generalize 1 + n1 + n2 + n3 + n4 = N
          refine start_ (n := 16) (S := fun w' => w'.cell? ⟨w.heap.size + 1, j3, none⟩ = some (.int .u32 (y3 : Nat)) ∧ w'.cell? ⟨w.heap.size + 1, n, none⟩ = some (.int .u32 (y4 : Nat))) (ds := [15]) #[false, false, false, false, false, false, false, false, false, false, false, false, false, false, false, false] (by kernel_rfl) rfl rfl ⟨hc3, hc4⟩ (fun hHeld => ?_)
          refine pure_ (i := 0) (N := some 77) (v := ?_) (a' := ?_) #[true, false, false, false, false, false, false, false, false, false, false, false, false, false, false, false] rfl rfl (by kernel_rfl) (fun _ _ _ h => h) (Or.inl ⟨by rfl, ?_⟩) ?_ ?_
          rotate_left
          · intro w'
            go_simp
            with_reducible rfl
          rotate_left
          · simp only [Act.put, List.setIfInBounds_toArray, List.set_cons_zero, List.set_cons_succ, i64_w, i32_w]
            rfl
          refine pure_ (i := 1) (N := some 78) (v := ?_) (a' := ?_) #[true, true, false, false, false, false, false, false, false, false, false, false, false, false, false, false] rfl rfl (by kernel_rfl) (fun _ _ _ h => h) (Or.inl ⟨by rfl, ?_⟩) ?_ ?_
          rotate_left
          · intro w'
            go_simp
            with_reducible rfl
          rotate_left
          · simp only [Act.put, List.setIfInBounds_toArray, List.set_cons_zero, List.set_cons_succ, i64_w, i32_w]
            rfl
          refine pure_ (i := 2) (N := some 79) (v := ?_) (a' := ?_) #[true, true, true, false, false, false, false, false, false, false, false, false, false, false, false, false] rfl rfl (by kernel_rfl) (fun _ _ _ h => h) (Or.inl ⟨by rfl, ?_⟩) ?_ ?_
          rotate_left
          · intro w'
            go_simp
            with_reducible rfl
          rotate_left
          · simp only [Act.put, List.setIfInBounds_toArray, List.set_cons_zero, List.set_cons_succ, i64_w, i32_w]
            rfl
          refine pure_ (i := 3) (N := some 80) (v := ?_) (a' := ?_) #[true, true, true, true, false, false, false, false, false, false, false, false, false, false, false, false] rfl rfl (by kernel_rfl) (fun _ _ _ h => h) (Or.inl ⟨by rfl, ?_⟩) ?_ ?_
          rotate_left
          · intro w'
            go_simp
            with_reducible rfl
          rotate_left
          · simp only [Act.put, List.setIfInBounds_toArray, List.set_cons_zero, List.set_cons_succ, i64_w, i32_w]
            rfl
          refine pure_ (i := 4) (N := some 81) (v := ?_) (a' := ?_) #[true, true, true, true, true, false, false, false, false, false, false, false, false, false, false, false] rfl rfl (by kernel_rfl) (fun _ _ _ h => h) (Or.inl ⟨by rfl, ?_⟩) ?_ ?_
          rotate_left
          · intro w'
            go_simp
            with_reducible rfl
          rotate_left
          · simp only [Act.put, List.setIfInBounds_toArray, List.set_cons_zero, List.set_cons_succ, i64_w, i32_w]
            rfl
          refine pure_ (i := 7) (N := some 84) (v := ?_) (a' := ?_) #[true, true, true, true, true, false, false, true, false, false, false, false, false, false, false, false] rfl rfl (by kernel_rfl) (fun _ _ _ h => h) (Or.inl ⟨by rfl, ?_⟩) ?_ ?_
          rotate_left
          · intro w'
            go_simp
            with_reducible rfl
          rotate_left
          · simp only [Act.put, List.setIfInBounds_toArray, List.set_cons_zero, List.set_cons_succ, i64_w, i32_w]
            rfl
          refine pure_ (i := 9) (N := some 86) (v := ?_) (a' := ?_) #[true, true, true, true, true, false, false, true, false, true, false, false, false, false, false, false] rfl rfl (by kernel_rfl) (fun _ _ _ h => h) (Or.inl ⟨by rfl, ?_⟩) ?_ ?_
          rotate_left
          · intro w'
            go_simp
            with_reducible rfl
          rotate_left
          · simp only [Act.put, List.setIfInBounds_toArray, List.set_cons_zero, List.set_cons_succ, i64_w, i32_w]
            rfl
          refine pure_ (i := 10) (N := some 87) (v := ?_) (a' := ?_) #[true, true, true, true, true, false, false, true, false, true, true, false, false, false, false, false] rfl rfl (by kernel_rfl) (fun _ _ _ h => h) (Or.inl ⟨by rfl, ?_⟩) ?_ ?_
          rotate_left
          · intro w'
            go_simp
            with_reducible rfl
          rotate_left
          · simp only [Act.put, List.setIfInBounds_toArray, List.set_cons_zero, List.set_cons_succ, i64_w, i32_w]
            rfl
          refine pure_ (i := 11) (N := some 88) (v := ?_) (a' := ?_) #[true, true, true, true, true, false, false, true, false, true, true, true, false, false, false, false] rfl rfl (by kernel_rfl) (fun _ _ _ h => h) (Or.inl ⟨by rfl, ?_⟩) ?_ ?_
          rotate_left
          · intro w'
            go_simp
            with_reducible rfl
          rotate_left
          · simp only [Act.put, List.setIfInBounds_toArray, List.set_cons_zero, List.set_cons_succ, i64_w, i32_w]
            rfl
          refine take_ (i := 5) (N := some 82) (v := ?_) (a' := ?_) #[true, true, true, true, true, true, false, true, false, true, true, true, false, false, false, false] rfl rfl (by kernel_rfl) (fun _ _ _ h => h) (Or.inl ⟨by rfl, ?_⟩) hHeld ?_ ?_
          rotate_left
          · rintro w' ⟨s0, s1⟩
            go_simp
            with_reducible rfl
          rotate_left
          · simp only [Act.put, List.setIfInBounds_toArray, List.set_cons_zero, List.set_cons_succ, i64_w, i32_w]
            rfl
          refine pure_ (i := 6) (N := some 83) (v := ?_) (a' := ?_) #[true, true, true, true, true, true, true, true, false, true, true, true, false, false, false, false] rfl rfl (by kernel_rfl) (fun _ _ _ h => h) (Or.inl ⟨by rfl, ?_⟩) ?_ ?_
          rotate_left
          · intro w'
            go_simp
            with_reducible rfl
          rotate_left
          · simp only [Act.put, List.setIfInBounds_toArray, List.set_cons_zero, List.set_cons_succ, i64_w, i32_w]
            rfl
          refine pure_ (i := 8) (N := some 85) (v := ?_) (a' := ?_) #[true, true, true, true, true, true, true, true, true, true, true, true, false, false, false, false] rfl rfl (by kernel_rfl) (fun _ _ _ h => h) (Or.inl ⟨by rfl, ?_⟩) ?_ ?_
          rotate_left
          · intro w'
            go_simp
            with_reducible rfl
          rotate_left
          · simp only [Act.put, List.setIfInBounds_toArray, List.set_cons_zero, List.set_cons_succ, i64_w, i32_w]
            rfl
          refine take_ (i := 12) (N := some 89) (v := ?_) (a' := ?_) #[true, true, true, true, true, true, true, true, true, true, true, true, true, false, false, false] rfl rfl (by kernel_rfl) (fun _ _ _ h => h) (Or.inl ⟨by rfl, ?_⟩) hHeld ?_ ?_
          rotate_left
          · rintro w' ⟨s0, s1⟩
            go_simp
            with_reducible rfl
          rotate_left
          · simp only [Act.put, List.setIfInBounds_toArray, List.set_cons_zero, List.set_cons_succ, i64_w, i32_w]
            rfl
          refine pure_ (i := 13) (N := some 90) (v := ?_) (a' := ?_) #[true, true, true, true, true, true, true, true, true, true, true, true, true, true, false, false] rfl rfl (by kernel_rfl) (fun _ _ _ h => h) (Or.inl ⟨by rfl, ?_⟩) ?_ ?_
          rotate_left
          · intro w'
            go_simp
            with_reducible rfl
          rotate_left
          · simp only [Act.put, List.setIfInBounds_toArray, List.set_cons_zero, List.set_cons_succ, i64_w, i32_w]
            rfl
          refine pure_ (i := 14) (N := some 91) (v := ?_) (a' := ?_) #[true, true, true, true, true, true, true, true, true, true, true, true, true, true, true, false] rfl rfl (by kernel_rfl) (fun _ _ _ h => h) (Or.inl ⟨by rfl, ?_⟩) ?_ ?_
          rotate_left
          · intro w'
            go_simp
            with_reducible rfl
          rotate_left
          · simp only [Act.put, List.setIfInBounds_toArray, List.set_cons_zero, List.set_cons_succ, i64_w, i32_w]
            rfl
          refine last_ (i := 15) (N := none) #[true, true, true, true, true, true, true, true, true, true, true, true, true, true, true, true] rfl rfl (by kernel_rfl) (by decide) (fun K hK => ?_)
          refine skip_ (w1 := ?_) (by rfl) rfl ?_ ?_
          rotate_left
          · go_simp
            rfl
          refine hK.out _ _ ?_
          clear hK K
          refine done_ (by kernel_rfl) ?_
          have hv : IntKind.u32.wrap (IntKind.u32.wrap (IntKind.u32.wrap (((sm1 y2 : Nat) : Int) + (y3 : Int)) + ((sm0 y1 : Nat) : Int)) + (y4 : Int)) = ((nextw (wl b n) (16 + n) : Nat) : Int) := by
            rw [HN.out]
            unfold add2
            rw [IntKind.wrap_u32, IntKind.wrap_u32, IntKind.wrap_u32]
            omega
          rw [hv]
          clear hv hHeld hc1 hc2 hc3 hc4 hc5 hf5
          obtain ⟨f0, f1, f2, f3⟩ := HF.out
          have hA1 := (HA1.out.drewN (N + 1)).set m (nextw (wl b n) (16 + n) : Int)
          have hA0 := (HA0.out.drewN (N + 1)).other (p := ⟨w.heap.size + 1, m, none⟩) (by show w.heap.size ≠ w.heap.size + 1; omega) (.int .u32 (nextw (wl b n) (16 + n) : Int))
          have hB := ((HB.out.trans (c := wr.drewN (N + 1)) ⟨rfl, rfl, rfl, Nat.le_refl _, fun _ _ => rfl⟩).setCell (p := ⟨w.heap.size + 1, m, none⟩) (by show w.heap.size ≤ w.heap.size + 1; omega) (.int .u32 (nextw (wl b n) (16 + n) : Int)))
          have hset : (wl b n ++ List.replicate (48 - n) 0).set m (nextw (wl b n) (16 + n)) = wl b (n + 1) ++ List.replicate (48 - (n + 1)) 0 := by
            subst f0
            exact wl_set b n hlt
          rw [cN_set, hset] at hA1
          have HA1' := Aside0.mk hA1
          have HA0' := Aside0.mk hA0
          have HB' := Aside0.mk hB
          have HF0 := Aside0.mk f0
          clear hA1 hA0 hB HA1 HA0 HB hset f0 f1 f2 f3 q1 q2 q3 q4 t1 t2 t3 t4
          go_wp2
          generalize World.setCell (wr.drewN (N + 1)) ⟨w.heap.size + 1, m, none⟩ (.int .u32 (nextw (wl b n) (16 + n) : Int)) = w2 at *
          have f0 := HF0.out
          exact ⟨⟨m + 1, n + 1, by omega, by omega, by rw [Int.natCast_add]; rfl, HA1', HA0', HB'⟩, by show 64 - ((m : Int) + 1).toNat < 64 - (m : Int).toNat; omega⟩
        · have hn48 : n = 48 := by omega
          have hm64 : m = 64 := by omega
          subst hn48
          clear hm hlt
          subst hm64
          have hA1 := HA1.out
          have hA0 := HA0.out
          have hB := HB.out
          clear HA1 HA0 HB
          have e0 : wl b 48 ++ List.replicate (48 - 48) 0 = wl b 48 := by simp
          rw [e0] at hA1
          clear e0
          have hW := wl_length b 48
          generalize hWl : wl b 48 = W at *
          have HWl := Aside0.mk hWl
          clear hWl
          have hl1 : (ints .u32 (cN W)).length = 64 := by rw [ints_length, cN_length, hW]
          go_upto_region 14 with (fail)
          rename_i K0 hK0
          apply wp_region_lit
          refine wpList_load_mid rfl 92 (.tmp 3) rfl _ 0 rfl (ints .u32 (cN W)) _ hA1.range rfl rfl (by rw [hl1]; rfl) ?_
          refine wpList_store_mid rfl 92 (.tmp 2) (.tmp 92) rfl _ 0 (ints .u32 (cN W)).toArray rfl rfl (hA0.there (by rw [List.size_toArray, hl1]; rfl)) (by rw [List.size_toArray, hl1]; rfl) (all_oneCell_toArray (ints_one _ _)) ?_
          have hA2 := hA0.setCells (ys := cN W) (by rw [cN_length, cN_length, hW]; rfl)
          have hB2 := below_setCells (Nat.le_refl w.heap.size) (ints .u32 (cN W)) 0 wr hB
          apply wpList_nil
          refine hK0 _ _ ?_
          rw [List.toList_toArray]
          generalize wr.setCells w.heap.size 0 (ints .u32 (cN W)) = w3 at *
          go_wp2
          refine bodyPost_ret (v := .agg (ints .u32 (cN W)).toArray) ?_ rfl ⟨by rw [HWl.out], hB2⟩
          exact results_cell_row rfl _ _ w.heap.size 92 (ints .u32 (cN W)).toArray (0, 0) _ rfl hA2 rfl rfl (by rw [List.size_toArray, hl1]; rfl)
end Go.Proofs.Ytojlhmmmiebbmaa.PNonceLists
