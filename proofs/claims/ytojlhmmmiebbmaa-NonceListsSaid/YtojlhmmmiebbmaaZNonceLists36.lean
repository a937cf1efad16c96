/- What the proof of NonceLists is made of, part 36. -/
import Derived.Test.YtojlhmmmiebbmaaZNonceLists35
namespace Go.Proofs.Ytojlhmmmiebbmaa.PNonceLists
open Go.RowKit Go.Proofs.Ytojlhmmmiebbmaa Go.Proofs.YtojlhmmmiebbmaaW.PrintWords Go.Proofs.YtojlhmmmiebbmaaW.PrintLast Go.Proofs.YtojlhmmmiebbmaaW.PrintMore Go.Proofs.Ytojlhmmmiebbmaa.Sha Go.Proofs.Ytojlhmmmiebbmaa.Arr
attribute [local go_sem] max2_int min2_int max_two min_two max_three min_three max_four min_four
set_option linter.unusedVariables false
set_option linter.unusedSimpArgs false
/-- a number's 32 bytes, the highest first -/
def byt (a : Nat) : List Nat := (List.range 32).map fun j => by8 a (31 - j)
theorem byt_length (a : Nat) : (byt a).length = 32 := by simp [byt]
theorem byt_len (a : Nat) : (cN (byt a)).length = 32 := by rw [cN_length, byt_length]
theorem byt_bs (a : Nat) : Bs (byt a) := bs_of_mem (fun y hy => by
  obtain ⟨j, _, rfl⟩ := List.mem_map.1 hy
  exact by8_lt _ _)
theorem byt_fn (a : Nat) : fnB (fun j => by8 a (31 - j)) 32 = ints .u8 (cN (byt a)) := by
  unfold fnB ints byt cN
  simp
theorem rw_C {w : World} {T : TypeId} {g : Nat} {l : List Nat} (h : Rw w T g (ints .u8 (cN l))) (hl : l.length ≤ 1000) : Kd.C (Kd.int .u8) w (some ⟨g, 0, none⟩) (cN l).length (cN l) := by
  refine Kd.C_of_reads (enc := Value.int .u8) (d := (0 : Int)) (h1 := fun _ => rfl) ⟨rfl, by rw [cN_length]; omega, fun _ => ⟨_, rfl, fun j hj => ?_⟩⟩
  rw [Addr.add_mid, Nat.zero_add]
  have h1 := ints_get .u8 (cN l) j hj
  rw [h.cell h1]
  rfl
theorem arr_C {w : World} {T : TypeId} {g : Nat} {l : List Nat} (h : Arr .u8 T w g (cN l)) (hl : l.length ≤ 1000) : Kd.C (Kd.int .u8) w (some ⟨g, 0, none⟩) (cN l).length (cN l) :=
  Kd.C_of_reads (enc := Value.int .u8) (d := (0 : Int)) (h1 := fun _ => rfl) (arr_rd h (by rw [cN_length]; unfold maxLen; omega))
/-- limb.Bytes, as a row -/
theorem bytes_k {a : Nat} (ha : a < N256) (w : World) :
    Calls Try.prog 32 #[numV a] w fun e w' => ∃ g c, e = .returned (.slice (some ⟨g, 0, none⟩) 32 c) ∧ 32 ≤ c ∧ w.heap.size ≤ g ∧ Kd.C (Kd.int .u8) w' (some ⟨g, 0, none⟩) (cN (byt a)).length (cN (byt a)) ∧ Below w.heap.size w w' :=
  (bytes_calls2 (IsNum.mk ha) w).mono (fun e w' h => by
    obtain ⟨g, c, h1, h2, h3, h4, h5⟩ := h
    rw [byt_fn] at h3
    exact ⟨g, c, h1, h5, h2, rw_C h3 (by rw [byt_length]; decide), h4⟩)
/-- the source ahead of the first number, of these bytes -/
def st0 : List Nat × List Nat := (List.replicate 32 0, List.replicate 32 1)
def stM (s : List Nat × List Nat) (x : List Nat) : List Nat × List Nat := (mixK s.1 s.2 x, mixV s.1 s.2 x)
def stB (text : List Nat) : Nat → List Nat × List Nat
  | 0 => st0
  | i + 1 => stM (stB text i) ([i] ++ text)
/-- v filled up to i -/
def filN (i : Nat) : List Nat := List.replicate i 1 ++ List.replicate (32 - i) 0
theorem filN_length (i : Nat) (h : i ≤ 32) : (filN i).length = 32 := by unfold filN; rw [List.length_append, List.length_replicate, List.length_replicate]; omega
theorem filN_set (i : Nat) (h : i < 32) : (filN i).set i 1 = filN (i + 1) := by
  have h32 : ∀ i : Fin 32, (filN i.val).set i.val 1 = filN (i.val + 1) := by decide +kernel
  exact h32 ⟨i, h⟩
theorem but_al {g : Nat} {a w : World} (h : But a.heap.size g a w) (o : Obj) : But a.heap.size g a (w.alloc o) := h.on (below_alloc (Below.refl _ _) o) h.size
theorem but_on {g : Nat} {a w w' : World} (h : But a.heap.size g a w) (hb : Below w.heap.size w w') : But a.heap.size g a w' := h.on hb h.size
theorem meas32 {t : Nat} (h : t < 32) : 32 - (intOf (.int .i64 ((t : Int) + 1))).toNat < 32 - (intOf (.int .i64 (t : Int))).toNat := by simp [intOf]; omega
theorem meas2 {t : Nat} (h : t < 2) : 2 - (intOf (.int .i64 ((t : Int) + 1))).toNat < 2 - (intOf (.int .i64 (t : Int))).toNat := by simp [intOf]; omega
theorem cN_set1 (l : List Nat) (i : Nat) : (cN l).set i 1 = cN (l.set i 1) := by
  have h := cN_set l i 1
  exact h
set_option maxRecDepth 100000 in
set_option maxHeartbeats 8000000 in
theorem begin_calls (d m : Nat) (w : World) (hd : d < N256) (hm : m < N256) :
    Calls Try.prog 15 #[numV d, numV m] w fun e w' => ∃ g bk bv, e = .returned (.pointer (some ⟨g, 0, none⟩)) ∧ w.heap.size ≤ g ∧ Src w' g bk bv (stB (byt d ++ byt m) 2).1 (stB (byt d ++ byt m) 2).2 ∧ Below w.heap.size w w' := by
  have HBD := Aside0.mk (fun u => bytes_k hd u)
  have HBM := Aside0.mk (fun u => bytes_k hm u)
  clear hd hm
  have hmk : ∀ w : World, (Instr.makeSlice 40 (.int .i64 32) (.int .i64 32)).run Try.prog w = .ok (.slice (some ⟨w.heap.size, 0, none⟩) 32 32) (w.alloc (.cells #[.int .u8 0, .int .u8 0, .int .u8 0, .int .u8 0, .int .u8 0, .int .u8 0, .int .u8 0, .int .u8 0, .int .u8 0, .int .u8 0, .int .u8 0, .int .u8 0, .int .u8 0, .int .u8 0, .int .u8 0, .int .u8 0, .int .u8 0, .int .u8 0, .int .u8 0, .int .u8 0, .int .u8 0, .int .u8 0, .int .u8 0, .int .u8 0, .int .u8 0, .int .u8 0, .int .u8 0, .int .u8 0, .int .u8 0, .int .u8 0, .int .u8 0, .int .u8 0] 5)) := fun _ => by kernel_rfl
  go_enter Try.func15, Try.ntmps15
  go_upto_region 1 with (fail)
  refine wp_at (w2 := (World.alloc (World.alloc w (.cells (nw d).toArray 24)) (.cells (nw m).toArray 24))) rfl ?_
  obtain ⟨x_0, e_0, h_0, b_0, s_0⟩ := new_num w d
  obtain ⟨x_1, e_1, h_1, b_1, s_1⟩ := new_num x_0 m
  rw [e_0, e_1]
  rw [s_0] at h_1 s_1
  have HB : Aside0 (Below w.heap.size w x_1) := Aside0.mk (bl_both b_0 b_1)
  have HD : Aside0 (NAt x_1 (w.heap.size) d) := Aside0.mk (h_0.on b_1)
  have HM : Aside0 (NAt x_1 (w.heap.size + 1) m) := Aside0.mk h_1
  have HS : Aside0 (w.heap.size + 1 + 1 ≤ x_1.heap.size) := Aside0.mk (Nat.le_of_eq s_1.symm)
  clear e_0 h_0 b_0 s_0 e_1 h_1 b_1 s_1
  obtain ⟨w1, hw_⟩ : ∃ x, x = x_1 := ⟨_, rfl⟩
  subst hw_
  clear x_0
  go_wp2
  refine start_ (n := 5) (S := fun w' => Below w1.heap.size w1 w') (ds := []) #[false, false, false, false, false] (by kernel_rfl) rfl rfl ((Below.refl _ _).drew) (fun hHeld => ?_)
  refine join_ (σ := Nat × Nat) 3 #[true, true, false, false, false] (fun s => [(9, .slice (some ⟨s.1, 0, none⟩) 32 32), (10, .slice (some ⟨s.2, 0, none⟩) 32 32)]) (fun s w' => Below w1.heap.size w1 w' ∧ Arr .u8 5 w' s.1 (cN (List.replicate 32 0)) ∧ w1.heap.size ≤ s.1 ∧ Arr .u8 5 w' s.2 (cN (List.replicate 32 0)) ∧ w1.heap.size ≤ s.2 ∧ s.1 ≠ s.2) ?_ ?_
  rotate_left
  · intro hCont
    refine two_ (i := 0) (j := 1) (Ni := some 9) (Nj := some 10) #[true, false, false, false, false] #[false, true, false, false, false] rfl rfl rfl rfl (by kernel_rfl) (by decide) (by decide) (fun K hK => ?_) (fun K hK => ?_)
    · skip
      refine value_ (w1 := ?_) (v := ?_) (by rfl) rfl ?_ ?_
      rotate_left 2
      · go_simp
        constructor
        · rfl
        · rfl
      have hzga : Arr .u8 5 (World.alloc (World.drew w1) (.cells #[.int .u8 0, .int .u8 0, .int .u8 0, .int .u8 0, .int .u8 0, .int .u8 0, .int .u8 0, .int .u8 0, .int .u8 0, .int .u8 0, .int .u8 0, .int .u8 0, .int .u8 0, .int .u8 0, .int .u8 0, .int .u8 0, .int .u8 0, .int .u8 0, .int .u8 0, .int .u8 0, .int .u8 0, .int .u8 0, .int .u8 0, .int .u8 0, .int .u8 0, .int .u8 0, .int .u8 0, .int .u8 0, .int .u8 0, .int .u8 0, .int .u8 0, .int .u8 0] 5)) (w1.heap.size) (cN (List.replicate 32 0)) := by have h_ := Arr.new (World.drew w1) .u8 5 (cN (List.replicate 32 0)); first | exact h_ | (simp only [alloc_sz] at h_; exact h_) | omega
      have hsga : w1.heap.size ≤ w1.heap.size := by have h_ := hHeld.size; first | exact h_ | (simp only [alloc_sz] at h_; exact h_) | omega
      refine hK.out _ _ (below_alloc hHeld _) (fun hHeld => ?_)
      clear hK K
      refine norm_ (a' := ?_) ?_ ?_
      rotate_left
      · show Act.put _ (some 9) _ = _
        simp only [Act.put, List.setIfInBounds_toArray, List.set_cons_zero, List.set_cons_succ, i64_w, i32_w]
        rfl
      refine one_ (i := 1) (N := some 10) #[true, true, false, false, false] rfl rfl (by kernel_rfl) (by decide) (fun K hK => ?_)
      refine value_ (w1 := ?_) (v := ?_) (by rfl) rfl ?_ ?_
      rotate_left 2
      · go_simp
        constructor
        · rfl
        · rfl
      have hzgb : Arr .u8 5 (World.alloc (World.alloc (World.drew w1) (.cells #[.int .u8 0, .int .u8 0, .int .u8 0, .int .u8 0, .int .u8 0, .int .u8 0, .int .u8 0, .int .u8 0, .int .u8 0, .int .u8 0, .int .u8 0, .int .u8 0, .int .u8 0, .int .u8 0, .int .u8 0, .int .u8 0, .int .u8 0, .int .u8 0, .int .u8 0, .int .u8 0, .int .u8 0, .int .u8 0, .int .u8 0, .int .u8 0, .int .u8 0, .int .u8 0, .int .u8 0, .int .u8 0, .int .u8 0, .int .u8 0, .int .u8 0, .int .u8 0] 5)) (.cells #[.int .u8 0, .int .u8 0, .int .u8 0, .int .u8 0, .int .u8 0, .int .u8 0, .int .u8 0, .int .u8 0, .int .u8 0, .int .u8 0, .int .u8 0, .int .u8 0, .int .u8 0, .int .u8 0, .int .u8 0, .int .u8 0, .int .u8 0, .int .u8 0, .int .u8 0, .int .u8 0, .int .u8 0, .int .u8 0, .int .u8 0, .int .u8 0, .int .u8 0, .int .u8 0, .int .u8 0, .int .u8 0, .int .u8 0, .int .u8 0, .int .u8 0, .int .u8 0] 5)) (w1.heap.size + 1) (cN (List.replicate 32 0)) := by have h_ := Arr.new (World.alloc (World.drew w1) (.cells #[.int .u8 0, .int .u8 0, .int .u8 0, .int .u8 0, .int .u8 0, .int .u8 0, .int .u8 0, .int .u8 0, .int .u8 0, .int .u8 0, .int .u8 0, .int .u8 0, .int .u8 0, .int .u8 0, .int .u8 0, .int .u8 0, .int .u8 0, .int .u8 0, .int .u8 0, .int .u8 0, .int .u8 0, .int .u8 0, .int .u8 0, .int .u8 0, .int .u8 0, .int .u8 0, .int .u8 0, .int .u8 0, .int .u8 0, .int .u8 0, .int .u8 0, .int .u8 0] 5)) .u8 5 (cN (List.replicate 32 0)); first | exact h_ | (simp only [alloc_sz] at h_; exact h_) | omega
      have hsgb : w1.heap.size ≤ w1.heap.size + 1 := by have h_ := hHeld.size; first | exact h_ | (simp only [alloc_sz] at h_; exact h_) | omega
      have hngagb : w1.heap.size < w1.heap.size + 1 := by have h_ := hzga.size; first | exact h_ | (simp only [alloc_sz] at h_; exact h_) | omega
      have hzoga := hzga.on (below_alloc (Below.refl _ (World.alloc (World.drew w1) (.cells #[.int .u8 0, .int .u8 0, .int .u8 0, .int .u8 0, .int .u8 0, .int .u8 0, .int .u8 0, .int .u8 0, .int .u8 0, .int .u8 0, .int .u8 0, .int .u8 0, .int .u8 0, .int .u8 0, .int .u8 0, .int .u8 0, .int .u8 0, .int .u8 0, .int .u8 0, .int .u8 0, .int .u8 0, .int .u8 0, .int .u8 0, .int .u8 0, .int .u8 0, .int .u8 0, .int .u8 0, .int .u8 0, .int .u8 0, .int .u8 0, .int .u8 0, .int .u8 0] 5))) (.cells #[.int .u8 0, .int .u8 0, .int .u8 0, .int .u8 0, .int .u8 0, .int .u8 0, .int .u8 0, .int .u8 0, .int .u8 0, .int .u8 0, .int .u8 0, .int .u8 0, .int .u8 0, .int .u8 0, .int .u8 0, .int .u8 0, .int .u8 0, .int .u8 0, .int .u8 0, .int .u8 0, .int .u8 0, .int .u8 0, .int .u8 0, .int .u8 0, .int .u8 0, .int .u8 0, .int .u8 0, .int .u8 0, .int .u8 0, .int .u8 0, .int .u8 0, .int .u8 0] 5))
      clear hzga
      have hzga := hzoga
      clear hzoga
      refine hK.out _ _ (below_alloc hHeld _) (fun hHeld => ?_)
      clear hK K
      refine norm_ (a' := ?_) ?_ ?_
      rotate_left
      · show Act.put _ (some 10) _ = _
        simp only [Act.put, List.setIfInBounds_toArray, List.set_cons_zero, List.set_cons_succ, i64_w, i32_w]
        rfl
      exact norm_ (by simp only [putAll, Act.put, List.setIfInBounds_toArray, List.set_cons_zero, List.set_cons_succ]) (hCont (w1.heap.size, w1.heap.size + 1) _ ⟨hHeld, hzga, hsga, hzgb, hsgb, Nat.ne_of_lt hngagb⟩)
    · skip
      refine value_ (w1 := ?_) (v := ?_) (by rfl) rfl ?_ ?_
      rotate_left 2
      · go_simp
        constructor
        · rfl
        · rfl
      have hzgb : Arr .u8 5 (World.alloc (World.drew w1) (.cells #[.int .u8 0, .int .u8 0, .int .u8 0, .int .u8 0, .int .u8 0, .int .u8 0, .int .u8 0, .int .u8 0, .int .u8 0, .int .u8 0, .int .u8 0, .int .u8 0, .int .u8 0, .int .u8 0, .int .u8 0, .int .u8 0, .int .u8 0, .int .u8 0, .int .u8 0, .int .u8 0, .int .u8 0, .int .u8 0, .int .u8 0, .int .u8 0, .int .u8 0, .int .u8 0, .int .u8 0, .int .u8 0, .int .u8 0, .int .u8 0, .int .u8 0, .int .u8 0] 5)) (w1.heap.size) (cN (List.replicate 32 0)) := by have h_ := Arr.new (World.drew w1) .u8 5 (cN (List.replicate 32 0)); first | exact h_ | (simp only [alloc_sz] at h_; exact h_) | omega
      have hsgb : w1.heap.size ≤ w1.heap.size := by have h_ := hHeld.size; first | exact h_ | (simp only [alloc_sz] at h_; exact h_) | omega
      refine hK.out _ _ (below_alloc hHeld _) (fun hHeld => ?_)
      clear hK K
      refine norm_ (a' := ?_) ?_ ?_
      rotate_left
      · show Act.put _ (some 10) _ = _
        simp only [Act.put, List.setIfInBounds_toArray, List.set_cons_zero, List.set_cons_succ, i64_w, i32_w]
        rfl
      refine one_ (i := 0) (N := some 9) #[true, true, false, false, false] rfl rfl (by kernel_rfl) (by decide) (fun K hK => ?_)
      refine value_ (w1 := ?_) (v := ?_) (by rfl) rfl ?_ ?_
      rotate_left 2
      · go_simp
        constructor
        · rfl
        · rfl
      have hzga : Arr .u8 5 (World.alloc (World.alloc (World.drew w1) (.cells #[.int .u8 0, .int .u8 0, .int .u8 0, .int .u8 0, .int .u8 0, .int .u8 0, .int .u8 0, .int .u8 0, .int .u8 0, .int .u8 0, .int .u8 0, .int .u8 0, .int .u8 0, .int .u8 0, .int .u8 0, .int .u8 0, .int .u8 0, .int .u8 0, .int .u8 0, .int .u8 0, .int .u8 0, .int .u8 0, .int .u8 0, .int .u8 0, .int .u8 0, .int .u8 0, .int .u8 0, .int .u8 0, .int .u8 0, .int .u8 0, .int .u8 0, .int .u8 0] 5)) (.cells #[.int .u8 0, .int .u8 0, .int .u8 0, .int .u8 0, .int .u8 0, .int .u8 0, .int .u8 0, .int .u8 0, .int .u8 0, .int .u8 0, .int .u8 0, .int .u8 0, .int .u8 0, .int .u8 0, .int .u8 0, .int .u8 0, .int .u8 0, .int .u8 0, .int .u8 0, .int .u8 0, .int .u8 0, .int .u8 0, .int .u8 0, .int .u8 0, .int .u8 0, .int .u8 0, .int .u8 0, .int .u8 0, .int .u8 0, .int .u8 0, .int .u8 0, .int .u8 0] 5)) (w1.heap.size + 1) (cN (List.replicate 32 0)) := by have h_ := Arr.new (World.alloc (World.drew w1) (.cells #[.int .u8 0, .int .u8 0, .int .u8 0, .int .u8 0, .int .u8 0, .int .u8 0, .int .u8 0, .int .u8 0, .int .u8 0, .int .u8 0, .int .u8 0, .int .u8 0, .int .u8 0, .int .u8 0, .int .u8 0, .int .u8 0, .int .u8 0, .int .u8 0, .int .u8 0, .int .u8 0, .int .u8 0, .int .u8 0, .int .u8 0, .int .u8 0, .int .u8 0, .int .u8 0, .int .u8 0, .int .u8 0, .int .u8 0, .int .u8 0, .int .u8 0, .int .u8 0] 5)) .u8 5 (cN (List.replicate 32 0)); first | exact h_ | (simp only [alloc_sz] at h_; exact h_) | omega
      have hsga : w1.heap.size ≤ w1.heap.size + 1 := by have h_ := hHeld.size; first | exact h_ | (simp only [alloc_sz] at h_; exact h_) | omega
      have hngbga : w1.heap.size < w1.heap.size + 1 := by have h_ := hzgb.size; first | exact h_ | (simp only [alloc_sz] at h_; exact h_) | omega
      have hzogb := hzgb.on (below_alloc (Below.refl _ (World.alloc (World.drew w1) (.cells #[.int .u8 0, .int .u8 0, .int .u8 0, .int .u8 0, .int .u8 0, .int .u8 0, .int .u8 0, .int .u8 0, .int .u8 0, .int .u8 0, .int .u8 0, .int .u8 0, .int .u8 0, .int .u8 0, .int .u8 0, .int .u8 0, .int .u8 0, .int .u8 0, .int .u8 0, .int .u8 0, .int .u8 0, .int .u8 0, .int .u8 0, .int .u8 0, .int .u8 0, .int .u8 0, .int .u8 0, .int .u8 0, .int .u8 0, .int .u8 0, .int .u8 0, .int .u8 0] 5))) (.cells #[.int .u8 0, .int .u8 0, .int .u8 0, .int .u8 0, .int .u8 0, .int .u8 0, .int .u8 0, .int .u8 0, .int .u8 0, .int .u8 0, .int .u8 0, .int .u8 0, .int .u8 0, .int .u8 0, .int .u8 0, .int .u8 0, .int .u8 0, .int .u8 0, .int .u8 0, .int .u8 0, .int .u8 0, .int .u8 0, .int .u8 0, .int .u8 0, .int .u8 0, .int .u8 0, .int .u8 0, .int .u8 0, .int .u8 0, .int .u8 0, .int .u8 0, .int .u8 0] 5))
      clear hzgb
      have hzgb := hzogb
      clear hzogb
      refine hK.out _ _ (below_alloc hHeld _) (fun hHeld => ?_)
      clear hK K
      refine norm_ (a' := ?_) ?_ ?_
      rotate_left
      · show Act.put _ (some 9) _ = _
        simp only [Act.put, List.setIfInBounds_toArray, List.set_cons_zero, List.set_cons_succ, i64_w, i32_w]
        rfl
      exact norm_ (by simp only [putAll, Act.put, List.setIfInBounds_toArray, List.set_cons_zero, List.set_cons_succ]) (hCont (w1.heap.size + 1, w1.heap.size) _ ⟨hHeld, hzga, hsga, hzgb, hsgb, Nat.ne_of_gt hngbga⟩)
  rintro ⟨ga, gb⟩ w5 ⟨hHeld0, hzga, hsga, hzgb, hsgb, hnegagb⟩
  have hHeld : Below w1.heap.size w1 w5 := hHeld0
  clear hHeld0
  refine norm_ (a' := ?_) ?_ ?_
  rotate_left
  · simp only [putAll, Act.put, List.setIfInBounds_toArray, List.set_cons_zero, List.set_cons_succ]
    rfl
  refine pure_ (i := 2) (N := some 11) (v := ?_) (a' := ?_) #[true, true, true, false, false] rfl rfl (by kernel_rfl) (fun _ _ _ h => h) (Or.inl ⟨by rfl, ?_⟩) ?_ ?_
  rotate_left
  · intro w'
    go_simp
    with_reducible rfl
  rotate_left
  · simp only [Act.put, List.setIfInBounds_toArray, List.set_cons_zero, List.set_cons_succ, i64_w, i32_w]
    rfl
  refine one_ (i := 3) (N := some 12) #[true, true, true, true, false] rfl rfl (by kernel_rfl) (by decide) (fun K hK => ?_)
  refine value_ (w1 := ?_) (v := ?_) (by rfl) rfl ?_ ?_
  rotate_left 2
  · go_simp
    constructor
    · rfl
    · rfl
  refine hK.out _ _ (below_alloc hHeld _) (fun hHeld => ?_)
  clear hK K
  refine norm_ (a' := ?_) ?_ ?_
  rotate_left
  · show Act.put _ (some 12) _ = _
    simp only [Act.put, List.setIfInBounds_toArray, List.set_cons_zero, List.set_cons_succ, i64_w, i32_w]
    rfl
  refine pure_ (i := 4) (N := some 5) (v := ?_) (a' := ?_) #[true, true, true, true, true] rfl rfl (by kernel_rfl) (fun _ _ _ h => h) (Or.inl ⟨by rfl, ?_⟩) ?_ ?_
  rotate_left
  · intro w'
    go_simp
    with_reducible rfl
  rotate_left
  · simp only [Act.put, List.setIfInBounds_toArray, List.set_cons_zero, List.set_cons_succ, i64_w, i32_w]
    rfl
  refine done_ (by kernel_rfl) ?_
  have h6 := hHeld
  have HA6 := Aside0.mk (hzga.alloc (.cells #[.slice (some ⟨ga, 0, none⟩) 32 32, .slice (some ⟨gb, 0, none⟩) 32 32] 66))
  have HB6 := Aside0.mk (hzgb.alloc (.cells #[.slice (some ⟨ga, 0, none⟩) 32 32, .slice (some ⟨gb, 0, none⟩) 32 32] 66))
  have HR6 := Aside0.mk (Row.new w5 66 [.slice (some ⟨ga, 0, none⟩) 32 32, .slice (some ⟨gb, 0, none⟩) 32 32])
  have HNE : Aside0 (ga ≠ gb ∧ ga ≠ w5.heap.size ∧ gb ≠ w5.heap.size ∧ w.heap.size + 2 ≤ ga ∧ w.heap.size + 2 ≤ gb ∧ w.heap.size + 2 ≤ w5.heap.size) := Aside0.mk ⟨hnegagb, Nat.ne_of_lt hzga.size, Nat.ne_of_lt hzgb.size, Nat.le_trans HS.out hsga, Nat.le_trans HS.out hsgb, by have h1 := HS.out; have h2 := hzga.size; omega⟩
  have HD6 := Aside0.mk (HD.out.on h6)
  have HM6 := Aside0.mk (HM.out.on h6)
  have HW6 := Aside0.mk (bl_on HB.out h6 HB.out.size)
  clear hsga hsgb hzga hzgb hnegagb hmk h6 hHeld HD HM HB HS
  simp only [List.toArray] at HR6
  generalize (World.alloc w5 (.cells #[.slice (some ⟨ga, 0, none⟩) 32 32, .slice (some ⟨gb, 0, none⟩) 32 32] 66)) = w6 at *
  generalize w5.heap.size = gs at *
  have c1 := HR6.out.cell 1 _ rfl
  go_wp2
  clear c1
  go_loopw [18] (fun v wr => ∃ i : Nat, i ≤ 32 ∧ v = .int .i64 (i : Int) ∧ Aside0 (Arr .u8 5 wr gb (cN (filN i))) ∧ Aside0 (But w6.heap.size gb w6 wr))
    (fun v _ => 32 - (intOf v).toNat)
  case atStart => exact ⟨0, by omega, rfl, HB6, Aside0.mk (But.of (Below.refl _ _))⟩
  case round =>
    obtain ⟨i, hi, rfl, HO, HP⟩ := hrel
    by_cases hlt : i < 32
    · have t1 : (i : Int) < 32 := by omega
      have c1 := (Row.block HR6.out (HP.out.block gs HR6.out.size (fun e => HNE.out.2.2.1 e.symm))).cell 1 _ rfl
      obtain ⟨x, hc⟩ : ∃ x : Int, wr.cell? ⟨gb, i, none⟩ = some (.int .u8 x) := ⟨_, HO.out.cell i (by rw [cN_length, filN_length i (by omega)]; exact hlt)⟩
      have hf := HO.out.free i
      have HLT := Aside0.mk hlt
      clear hlt hi
      go_wp2
      have ho := HO.out.set i 1
      rw [cN_set1, filN_set i HLT.out] at ho
      exact ⟨⟨i + 1, HLT.out, by rw [Int.natCast_add]; rfl, Aside0.mk ho, Aside0.mk (HP.out.self i _)⟩, meas32 HLT.out⟩
    · have hi' : i = 32 := by omega
      subst hi'
      rw [show ((32 : Nat) : Int) = 32 from rfl]
      have HSR : Aside0 (Src wr gs ga gb (stB (byt d ++ byt m) 0).1 (stB (byt d ++ byt m) 0).2) := Aside0.mk ⟨Row.block HR6.out (HP.out.block gs HR6.out.size (fun e => HNE.out.2.2.1 e.symm)), arr_C (HA6.out.block (HP.out.block ga HA6.out.size HNE.out.1)) (show (List.replicate 32 0).length ≤ 1000 by decide), arr_C HO.out (show (List.replicate 32 1).length ≤ 1000 by decide), rfl, rfl, bs_of_mem (fun y hy => by rw [List.eq_of_mem_replicate hy]; decide), bs_of_mem (fun y hy => by rw [List.eq_of_mem_replicate hy]; decide), HNE.out.2.1, HNE.out.2.2.1⟩
      have HDr := Aside0.mk (HD6.out.but HP.out (by have := HNE.out; omega))
      have HMr := Aside0.mk (HM6.out.but HP.out (by have := HNE.out; omega))
      have HWr := Aside0.mk (bl_but HW6.out HP.out HW6.out.size (by have := HNE.out; omega))
      clear hlt hi HO HP HA6 HB6 HR6 HD6 HM6 HW6
      go_upto_region 8 with (fail)
      have HSQ := Aside0.mk (HSR.out.on (below_alloc (Below.refl _ wr) (.cells #[.int .u8 0, .int .u8 1] 5)))
      have HDq := Aside0.mk (HDr.out.on (below_alloc (Below.refl _ wr) (.cells #[.int .u8 0, .int .u8 1] 5)))
      have HMq := Aside0.mk (HMr.out.on (below_alloc (Below.refl _ wr) (.cells #[.int .u8 0, .int .u8 1] 5)))
      have HWq := Aside0.mk (bl_on HWr.out (below_alloc (Below.refl _ wr) (.cells #[.int .u8 0, .int .u8 1] 5)) HWr.out.size)
      have HRq := Aside0.mk (Row.new wr 5 [.int .u8 0, .int .u8 1])
      have HGX : Aside0 (gs < wr.heap.size ∧ w.heap.size + 2 ≤ gs) := Aside0.mk ⟨HSR.out.size, HNE.out.2.2.2.2.2⟩
      clear HSR HDr HMr HWr
      simp only [List.toArray] at HRq
      generalize (World.alloc wr (.cells #[.int .u8 0, .int .u8 1] 5)) = wq at *
      generalize wr.heap.size = gq at *
      go_loopw [30] (fun v wr => ∃ i bk bv : Nat, i ≤ 2 ∧ v = .int .i64 (i : Int) ∧ Aside0 (Src wr gs bk bv (stB (byt d ++ byt m) i).1 (stB (byt d ++ byt m) i).2) ∧ Aside0 (NAt wr w.heap.size d) ∧ Aside0 (NAt wr (w.heap.size + 1) m) ∧ Aside0 (Row 5 wr gq [.int .u8 0, .int .u8 1]) ∧ Aside0 (Below w.heap.size w wr))
        (fun v _ => 2 - (intOf v).toNat)
      case atStart => exact ⟨0, ga, gb, by omega, rfl, HSQ, HDq, HMq, HRq, HWq⟩
      case round =>
        clear HSQ HDq HMq HRq HWq
        obtain ⟨i, bk, bv, hi, rfl, HS2, HD2, HM2, HR2, HW2⟩ := hrel
        by_cases hlt : i < 2
        · have t1 : (i : Int) < 2 := by omega
          have c1 : wr.cell? ⟨gq, i, none⟩ = some (.int .u8 (i : Int)) := by
            have h2 : i = 0 ∨ i = 1 := by omega
            rcases h2 with rfl | rfl
            · exact HR2.out.cell 0 _ rfl
            · exact HR2.out.cell 1 _ rfl
          have HLT := Aside0.mk hlt
          have HN2 : Aside0 (w.heap.size ≠ gs ∧ w.heap.size + 1 ≠ gs) := Aside0.mk (by have := HGX.out; omega)
          obtain ⟨text, htx⟩ : ∃ t, t = byt d ++ byt m := ⟨_, rfl⟩
          have HTX := Aside0.mk htx
          rw [← htx] at HS2 ⊢
          clear htx hlt hi
          have HMX : Aside0 (∀ W q gx b1 c1 b2 c2, Below wr.heap.size wr W → Row 5 W gx [.int .u8 (i : Int)] → Kd.C (Kd.int .u8) W (some ⟨b1, 0, none⟩) (cN (byt d)).length (cN (byt d)) → 32 ≤ c1 → Kd.C (Kd.int .u8) W (some ⟨b2, 0, none⟩) (cN (byt m)).length (cN (byt m)) → 32 ≤ c2 → W.heap[q]? = some (.cells [Value.slice (some ⟨gx, 0, none⟩) 1 1, .slice (some ⟨b1, 0, none⟩) 32 c1, .slice (some ⟨b2, 0, none⟩) 32 c2].toArray 40 (0, 0)) → Calls Try.prog 31 #[.pointer (some ⟨gs, 0, none⟩), .slice (some ⟨q, 0, none⟩) 3 3] W fun e w' => e = .returned (.tuple #[]) ∧ ∃ bk' bv', Src w' gs bk' bv' (stB text (i + 1)).1 (stB text (i + 1)).2 ∧ But W.heap.size gs W w' ∧ W.heap.size ≤ bk' ∧ W.heap.size ≤ bv') := Aside0.mk (fun W q gx b1 c1 b2 c2 hb hx h1 hc1 h2 hc2 hq => by
            have hrow : Kd.C (Kd.int .u8) W (some ⟨gx, 0, none⟩) (cN [i]).length (cN [i]) := rw_C (T := 5) (l := [i]) ⟨_, hx, rfl⟩ (show (1 : Nat) ≤ 1000 by decide)
            have hrows := rows_mk (w := W) (g := q) (T := 40) [[i], byt d, byt m] [Value.slice (some ⟨gx, 0, none⟩) 1 1, .slice (some ⟨b1, 0, none⟩) 32 c1, .slice (some ⟨b2, 0, none⟩) 32 c2] hq (fun j x hx => by
              match j, hx with
              | 0, hx => injection hx with hx; subst hx; exact ⟨_, 1, rfl, Nat.le_refl _, hrow⟩
              | 1, hx => injection hx with hx; subst hx; exact ⟨_, c1, by rw [byt_len]; rfl, by rw [byt_len]; exact hc1, h1⟩
              | 2, hx => injection hx with hx; subst hx; exact ⟨_, c2, by rw [byt_len]; rfl, by rw [byt_len]; exact hc2, h2⟩
              | n + 3, hx => cases hx) (show (3 : Nat) ≤ _ by decide)
            have h := mix_calls (some ⟨q, 0, none⟩) 3 [[i], byt d, byt m] W (HS2.out.on hb) hrows (fun x hx => by
              simp only [List.mem_cons, List.not_mem_nil, or_false] at hx
              rcases hx with rfl | rfl | rfl
              · exact bs_of_mem (fun y hy => by rw [List.mem_singleton.1 hy]; have := HLT.out; omega)
              · exact byt_bs d
              · exact byt_bs m) (show (3 : Nat) ≤ 20 by decide) (fun x hx => by
              simp only [List.mem_cons, List.not_mem_nil, or_false] at hx
              rcases hx with rfl | rfl | rfl
              · show (1 : Nat) ≤ 1000
                decide
              · rw [byt_length]; decide
              · rw [byt_length]; decide) (fun h => by cases h)
            rw [show [[i], byt d, byt m].flatten = [i] ++ text by rw [HTX.out]; simp] at h
            exact h)
          have hBl := (Below.refl wr.heap.size wr).drew
          go_upto_region 10 with (fail)
          clear c1
          refine start_ (n := 9) (S := fun w' => But wr.heap.size gs wr w' ∧ NAt w' w.heap.size d ∧ NAt w' (w.heap.size + 1) m) (ds := []) #[false, false, false, false, false, false, false, false, false] (by kernel_rfl) rfl rfl ⟨But.of (Below.refl _ _).drew, HD2.out, HM2.out⟩ (fun hHeld => ?_)
          refine pure_ (i := 0) (N := some 34) (v := ?_) (a' := ?_) #[true, false, false, false, false, false, false, false, false] rfl rfl (by kernel_rfl) (fun _ _ _ h => h) (Or.inl ⟨by rfl, ?_⟩) ?_ ?_
          rotate_left
          · intro w'
            go_simp
            with_reducible rfl
          rotate_left
          · simp only [Act.put, List.setIfInBounds_toArray, List.set_cons_zero, List.set_cons_succ, i64_w, i32_w]
            rfl
          refine pure_ (i := 1) (N := some 35) (v := ?_) (a' := ?_) #[true, true, false, false, false, false, false, false, false] rfl rfl (by kernel_rfl) (fun _ _ _ h => h) (Or.inl ⟨by rfl, ?_⟩) ?_ ?_
          rotate_left
          · intro w'
            go_simp
            with_reducible rfl
          rotate_left
          · simp only [Act.put, List.setIfInBounds_toArray, List.set_cons_zero, List.set_cons_succ, i64_w, i32_w]
            rfl
          refine take_ (i := 3) (N := some 37) (a' := ?_) #[true, true, false, true, false, false, false, false, false] rfl rfl (by kernel_rfl) (fun _ _ _ h => h) (yields_num (g := w.heap.size) (o := 0) (n := d) (by rfl) (.tmp 2) rfl rfl (fun w' hS => hS.2.1.range)) hHeld ?_ ?_
          rotate_left
          · simp only [Act.put, List.setIfInBounds_toArray, List.set_cons_zero, List.set_cons_succ, i64_w, i32_w]
            rfl
          refine take_ (i := 5) (N := some 39) (a' := ?_) #[true, true, false, true, false, true, false, false, false] rfl rfl (by kernel_rfl) (fun _ _ _ h => h) (yields_num (g := w.heap.size + 1) (o := 0) (n := m) (by rfl) (.tmp 3) rfl rfl (fun w' hS => hS.2.2.range)) hHeld ?_ ?_
          rotate_left
          · simp only [Act.put, List.setIfInBounds_toArray, List.set_cons_zero, List.set_cons_succ, i64_w, i32_w]
            rfl
          refine join_ (σ := Nat × Nat × Nat × Nat × Nat) 2 #[true, true, true, true, true, true, true, false, false] (fun s => [(36, .slice (some ⟨s.1, 0, none⟩) 1 1), (38, .slice (some ⟨s.2.1, 0, none⟩) 32 s.2.2.1), (40, .slice (some ⟨s.2.2.2.1, 0, none⟩) 32 s.2.2.2.2)]) (fun s w' => But wr.heap.size gs wr w' ∧ Row 5 w' s.1 [.int .u8 (i : Int)] ∧ wr.heap.size ≤ s.1 ∧ (Below wr.heap.size wr w') ∧ (Kd.C (Kd.int .u8) w' (some ⟨s.2.1, 0, none⟩) (cN (byt d)).length (cN (byt d))) ∧ (32 ≤ s.2.2.1) ∧ (Kd.C (Kd.int .u8) w' (some ⟨s.2.2.2.1, 0, none⟩) (cN (byt m)).length (cN (byt m))) ∧ (32 ≤ s.2.2.2.2)) ?_ ?_
          rotate_left
          · intro hCont
            refine two_ (i := 2) (j := 4) (Ni := some 36) (Nj := some 38) #[true, true, true, true, false, true, false, false, false] #[true, true, false, true, true, true, false, false, false] rfl rfl rfl rfl (by kernel_rfl) (by decide) (by decide) (fun K hK => ?_) (fun K hK => ?_)
            · skip
              refine value_ (w1 := ?_) (v := ?_) (by rfl) rfl ?_ ?_
              rotate_left 2
              · go_simp
                constructor
                · rfl
                · rfl
              have hzgx : Row 5 (World.alloc (World.drew wr) (.cells #[.int .u8 (i : Int)] 5)) (wr.heap.size) [.int .u8 (i : Int)] := by have h_ := Row.new (World.drew wr) 5 [.int .u8 (i : Int)]; first | exact h_ | (simp only [alloc_sz] at h_; exact h_) | omega
              have hsgx : wr.heap.size ≤ wr.heap.size := by have h_ := hHeld.1.size; first | exact h_ | (simp only [alloc_sz] at h_; exact h_) | omega
              replace hBl := bl_on hBl (below_alloc (Below.refl _ (World.drew wr)) (.cells #[.int .u8 (i : Int)] 5)) hBl.size
              refine hK.out _ _ ⟨but_al hHeld.1 _, HD2.out.but (but_al hHeld.1 _) HN2.out.1, HM2.out.but (but_al hHeld.1 _) HN2.out.2⟩ (fun hHeld => ?_)
              clear hK K
              refine norm_ (a' := ?_) ?_ ?_
              rotate_left
              · show Act.put _ (some 36) _ = _
                simp only [Act.put, List.setIfInBounds_toArray, List.set_cons_zero, List.set_cons_succ, i64_w, i32_w]
                rfl
              refine one_ (i := 4) (N := some 38) #[true, true, true, true, true, true, false, false, false] rfl rfl (by kernel_rfl) (by decide) (fun K hK => ?_)
              refine goes_ Try.func32 (by kernel_rfl) rfl #[numV d] (by rfl) rfl rfl (by simp only [List.map_toArray, List.map_cons, List.map_nil]; rfl) ?_
              with_reducible refine (HBD.out _).mono ?_
              rintro e u3 ⟨b38, c38, rfl, hk38, hg38, hC38, hb3⟩
              refine ⟨_, rfl, ?_⟩
              have hzogx := hzgx.on hb3
              clear hzgx
              have hzgx := hzogx
              clear hzogx
              replace hBl := bl_on hBl hb3 hBl.size
              refine hK.out _ _ ⟨but_on hHeld.1 hb3, HD2.out.but (but_on hHeld.1 hb3) HN2.out.1, HM2.out.but (but_on hHeld.1 hb3) HN2.out.2⟩ (fun hHeld => ?_)
              clear hK K
              refine norm_ (a' := ?_) ?_ ?_
              rotate_left
              · show Act.put _ (some 38) _ = _
                simp only [Act.put, List.setIfInBounds_toArray, List.set_cons_zero, List.set_cons_succ, i64_w, i32_w]
                rfl
              refine one_ (i := 6) (N := some 40) #[true, true, true, true, true, true, true, false, false] rfl rfl (by kernel_rfl) (by decide) (fun K hK => ?_)
              refine goes_ Try.func32 (by kernel_rfl) rfl #[numV m] (by rfl) rfl rfl (by simp only [List.map_toArray, List.map_cons, List.map_nil]; rfl) ?_
              with_reducible refine (HBM.out _).mono ?_
              rintro e u4 ⟨b40, c40, rfl, hk40, hg40, hC40, hb4⟩
              refine ⟨_, rfl, ?_⟩
              have hzogx := hzgx.on hb4
              clear hzgx
              have hzgx := hzogx
              clear hzogx
              replace hBl := bl_on hBl hb4 hBl.size
              replace hC38 := Kd.C_below hC38 hb4
              refine hK.out _ _ ⟨but_on hHeld.1 hb4, HD2.out.but (but_on hHeld.1 hb4) HN2.out.1, HM2.out.but (but_on hHeld.1 hb4) HN2.out.2⟩ (fun hHeld => ?_)
              clear hK K
              refine norm_ (a' := ?_) ?_ ?_
              rotate_left
              · show Act.put _ (some 40) _ = _
                simp only [Act.put, List.setIfInBounds_toArray, List.set_cons_zero, List.set_cons_succ, i64_w, i32_w]
                rfl
              exact norm_ (by simp only [putAll, Act.put, List.setIfInBounds_toArray, List.set_cons_zero, List.set_cons_succ]) (hCont (wr.heap.size, b38, c38, b40, c40) _ ⟨hHeld.1, hzgx, hsgx, hBl, hC38, hk38, hC40, hk40⟩)
            · skip
              refine goes_ Try.func32 (by kernel_rfl) rfl #[numV d] (by rfl) rfl rfl (by simp only [List.map_toArray, List.map_cons, List.map_nil]; rfl) ?_
              with_reducible refine (HBD.out _).mono ?_
              rintro e u3 ⟨b38, c38, rfl, hk38, hg38, hC38, hb3⟩
              refine ⟨_, rfl, ?_⟩
              replace hBl := bl_on hBl hb3 hBl.size
              refine hK.out _ _ ⟨but_on hHeld.1 hb3, HD2.out.but (but_on hHeld.1 hb3) HN2.out.1, HM2.out.but (but_on hHeld.1 hb3) HN2.out.2⟩ (fun hHeld => ?_)
              clear hK K
              refine norm_ (a' := ?_) ?_ ?_
              rotate_left
              · show Act.put _ (some 38) _ = _
                simp only [Act.put, List.setIfInBounds_toArray, List.set_cons_zero, List.set_cons_succ, i64_w, i32_w]
                rfl
              refine two_ (i := 2) (j := 6) (Ni := some 36) (Nj := some 40) #[true, true, true, true, true, true, false, false, false] #[true, true, false, true, true, true, true, false, false] rfl rfl rfl rfl (by kernel_rfl) (by decide) (by decide) (fun K hK => ?_) (fun K hK => ?_)
              · skip
                refine value_ (w1 := ?_) (v := ?_) (by rfl) rfl ?_ ?_
                rotate_left 2
                · go_simp
                  constructor
                  · rfl
                  · rfl
                have hzgx : Row 5 (World.alloc u3 (.cells #[.int .u8 (i : Int)] 5)) (u3.heap.size) [.int .u8 (i : Int)] := by have h_ := Row.new u3 5 [.int .u8 (i : Int)]; first | exact h_ | (simp only [alloc_sz] at h_; exact h_) | omega
                have hsgx : wr.heap.size ≤ u3.heap.size := by have h_ := hHeld.1.size; first | exact h_ | (simp only [alloc_sz] at h_; exact h_) | omega
                replace hBl := bl_on hBl (below_alloc (Below.refl _ u3) (.cells #[.int .u8 (i : Int)] 5)) hBl.size
                replace hC38 := Kd.C_below hC38 (below_alloc (Below.refl _ u3) (.cells #[.int .u8 (i : Int)] 5))
                refine hK.out _ _ ⟨but_al hHeld.1 _, HD2.out.but (but_al hHeld.1 _) HN2.out.1, HM2.out.but (but_al hHeld.1 _) HN2.out.2⟩ (fun hHeld => ?_)
                clear hK K
                refine norm_ (a' := ?_) ?_ ?_
                rotate_left
                · show Act.put _ (some 36) _ = _
                  simp only [Act.put, List.setIfInBounds_toArray, List.set_cons_zero, List.set_cons_succ, i64_w, i32_w]
                  rfl
                refine one_ (i := 6) (N := some 40) #[true, true, true, true, true, true, true, false, false] rfl rfl (by kernel_rfl) (by decide) (fun K hK => ?_)
                refine goes_ Try.func32 (by kernel_rfl) rfl #[numV m] (by rfl) rfl rfl (by simp only [List.map_toArray, List.map_cons, List.map_nil]; rfl) ?_
                with_reducible refine (HBM.out _).mono ?_
                rintro e u4 ⟨b40, c40, rfl, hk40, hg40, hC40, hb4⟩
                refine ⟨_, rfl, ?_⟩
                have hzogx := hzgx.on hb4
                clear hzgx
                have hzgx := hzogx
                clear hzogx
                replace hBl := bl_on hBl hb4 hBl.size
                replace hC38 := Kd.C_below hC38 hb4
                refine hK.out _ _ ⟨but_on hHeld.1 hb4, HD2.out.but (but_on hHeld.1 hb4) HN2.out.1, HM2.out.but (but_on hHeld.1 hb4) HN2.out.2⟩ (fun hHeld => ?_)
                clear hK K
                refine norm_ (a' := ?_) ?_ ?_
                rotate_left
                · show Act.put _ (some 40) _ = _
                  simp only [Act.put, List.setIfInBounds_toArray, List.set_cons_zero, List.set_cons_succ, i64_w, i32_w]
                  rfl
                exact norm_ (by simp only [putAll, Act.put, List.setIfInBounds_toArray, List.set_cons_zero, List.set_cons_succ]) (hCont (u3.heap.size, b38, c38, b40, c40) _ ⟨hHeld.1, hzgx, hsgx, hBl, hC38, hk38, hC40, hk40⟩)
              · skip
                refine goes_ Try.func32 (by kernel_rfl) rfl #[numV m] (by rfl) rfl rfl (by simp only [List.map_toArray, List.map_cons, List.map_nil]; rfl) ?_
                with_reducible refine (HBM.out _).mono ?_
                rintro e u4 ⟨b40, c40, rfl, hk40, hg40, hC40, hb4⟩
                refine ⟨_, rfl, ?_⟩
                replace hBl := bl_on hBl hb4 hBl.size
                replace hC38 := Kd.C_below hC38 hb4
                refine hK.out _ _ ⟨but_on hHeld.1 hb4, HD2.out.but (but_on hHeld.1 hb4) HN2.out.1, HM2.out.but (but_on hHeld.1 hb4) HN2.out.2⟩ (fun hHeld => ?_)
                clear hK K
                refine norm_ (a' := ?_) ?_ ?_
                rotate_left
                · show Act.put _ (some 40) _ = _
                  simp only [Act.put, List.setIfInBounds_toArray, List.set_cons_zero, List.set_cons_succ, i64_w, i32_w]
                  rfl
                refine one_ (i := 2) (N := some 36) #[true, true, true, true, true, true, true, false, false] rfl rfl (by kernel_rfl) (by decide) (fun K hK => ?_)
                refine value_ (w1 := ?_) (v := ?_) (by rfl) rfl ?_ ?_
                rotate_left 2
                · go_simp
                  constructor
                  · rfl
                  · rfl
                have hzgx : Row 5 (World.alloc u4 (.cells #[.int .u8 (i : Int)] 5)) (u4.heap.size) [.int .u8 (i : Int)] := by have h_ := Row.new u4 5 [.int .u8 (i : Int)]; first | exact h_ | (simp only [alloc_sz] at h_; exact h_) | omega
                have hsgx : wr.heap.size ≤ u4.heap.size := by have h_ := hHeld.1.size; first | exact h_ | (simp only [alloc_sz] at h_; exact h_) | omega
                replace hBl := bl_on hBl (below_alloc (Below.refl _ u4) (.cells #[.int .u8 (i : Int)] 5)) hBl.size
                replace hC38 := Kd.C_below hC38 (below_alloc (Below.refl _ u4) (.cells #[.int .u8 (i : Int)] 5))
                replace hC40 := Kd.C_below hC40 (below_alloc (Below.refl _ u4) (.cells #[.int .u8 (i : Int)] 5))
                refine hK.out _ _ ⟨but_al hHeld.1 _, HD2.out.but (but_al hHeld.1 _) HN2.out.1, HM2.out.but (but_al hHeld.1 _) HN2.out.2⟩ (fun hHeld => ?_)
                clear hK K
                refine norm_ (a' := ?_) ?_ ?_
                rotate_left
                · show Act.put _ (some 36) _ = _
                  simp only [Act.put, List.setIfInBounds_toArray, List.set_cons_zero, List.set_cons_succ, i64_w, i32_w]
                  rfl
                exact norm_ (by simp only [putAll, Act.put, List.setIfInBounds_toArray, List.set_cons_zero, List.set_cons_succ]) (hCont (u4.heap.size, b38, c38, b40, c40) _ ⟨hHeld.1, hzgx, hsgx, hBl, hC38, hk38, hC40, hk40⟩)
          rintro ⟨gx, b38, c38, b40, c40⟩ w5 ⟨hHeld0, hzgx, hsgx, hBl, hC38, hk38, hC40, hk40⟩
          have hHeld : But wr.heap.size gs wr w5 ∧ NAt w5 w.heap.size d ∧ NAt w5 (w.heap.size + 1) m := ⟨hHeld0, HD2.out.but (hHeld0) HN2.out.1, HM2.out.but (hHeld0) HN2.out.2⟩
          clear hHeld0
          refine norm_ (a' := ?_) ?_ ?_
          rotate_left
          · simp only [putAll, Act.put, List.setIfInBounds_toArray, List.set_cons_zero, List.set_cons_succ]
            rfl
          refine one_ (i := 7) (N := some 41) #[true, true, true, true, true, true, true, true, false] rfl rfl (by kernel_rfl) (by decide) (fun K hK => ?_)
          refine value_ (w1 := ?_) (v := ?_) (by rfl) rfl ?_ ?_
          rotate_left 2
          · go_simp
            constructor
            · rfl
            · rfl
          refine hK.out _ _ ⟨but_al hHeld.1 _, hHeld.2.1.alloc _, hHeld.2.2.alloc _⟩ (fun hHeld => ?_)
          clear hK K
          refine norm_ (a' := ?_) ?_ ?_
          rotate_left
          · show Act.put _ (some 41) _ = _
            simp only [Act.put, List.setIfInBounds_toArray, List.set_cons_zero, List.set_cons_succ, i64_w, i32_w]
            rfl
          refine one_ (i := 8) (N := some 42) #[true, true, true, true, true, true, true, true, true] rfl rfl (by kernel_rfl) (by decide) (fun K hK => ?_)
          refine goes_ Try.func31 (by kernel_rfl) rfl #[.pointer (some ⟨gs, 0, none⟩), .slice (some ⟨w5.heap.size, 0, none⟩) 3 3] (by rfl) rfl rfl (by simp only [List.map_toArray, List.map_cons, List.map_nil]; rfl) ?_
          with_reducible refine (HMX.out _ _ gx b38 c38 b40 c40 (below_alloc hBl _) (hzgx.alloc _) (Kd.C_below hC38 (below_alloc (Below.refl _ _) _)) hk38 (Kd.C_below hC40 (below_alloc (Below.refl _ _) _)) hk40 (heap_alloc_new w5 _)).mono ?_
          rintro e u7 ⟨rfl, bk7, bv7, hs7, hb7, hk7, hv7⟩
          refine ⟨_, rfl, ?_⟩
          refine hK.out _ _ ⟨But.again hHeld.1 hb7 hHeld.1.size, hHeld.2.1.but hb7 HN2.out.1, hHeld.2.2.but hb7 HN2.out.2⟩ (fun hHeld => ?_)
          clear hK K
          refine norm_ (a' := ?_) ?_ ?_
          rotate_left
          · show Act.put _ (some 42) _ = _
            simp only [Act.put, List.setIfInBounds_toArray, List.set_cons_zero, List.set_cons_succ, i64_w, i32_w]
            rfl
          refine done_ (by kernel_rfl) ?_
          have HH := Aside0.mk hHeld
          have HS7 := Aside0.mk hs7
          clear hHeld hs7 hb7 hk7 hv7 hBl hC38 hC40 hk38 hk40 hzgx hsgx
          go_wp2
          exact ⟨⟨i + 1, bk7, bv7, HLT.out, by rw [Int.natCast_add]; rfl, HS7, Aside0.mk HH.out.2.1, Aside0.mk HH.out.2.2, Aside0.mk (Row.block HR2.out (HH.out.1.block gq HR2.out.size (by have := HGX.out; omega))), Aside0.mk (bl_but HW2.out HH.out.1 HW2.out.size (by have := HGX.out; omega))⟩, meas2 HLT.out⟩
        · have hi' : i = 2 := by omega
          subst hi'
          go_wp2
          go_ret
          exact ⟨gs, bk, bv, rfl, by have := HGX.out; omega, HS2.out, HW2.out⟩
end Go.Proofs.Ytojlhmmmiebbmaa.PNonceLists
