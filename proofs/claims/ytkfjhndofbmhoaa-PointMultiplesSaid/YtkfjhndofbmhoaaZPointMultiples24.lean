/- What the proof of PointMultiples is made of, part 24. -/
import Derived.Test.YtkfjhndofbmhoaaZPointMultiples21
import Derived.Test.YtkfjhndofbmhoaaZPointMultiplesh
namespace Go.Proofs.Ytkfjhndofbmhoaa
open Go.RowKit Go.Proofs.Ytkfjhndofbmhoaa.Arr Go.Proofs.YtkfjhndofbmhoaaW.PrintWords Go.Proofs.YtkfjhndofbmhoaaW.PrintLast Go.Proofs.YtkfjhndofbmhoaaW.PrintMore
set_option linter.unusedVariables false
set_option linter.unusedSimpArgs false
def mmp (a b : Nat) : Nat := a * b % pP
def msp (a b : Nat) : Nat := (a + pP - b) % pP
def adp (a b : Nat) : Nat := (a + b) % pP
/-- twice a point by three numbers -/
def twJ (x y z : Nat) : Nat × Nat × Nat :=
 let d := mmp z z
 let g := mmp y y
 let b := mmp x g
 let a := mmp (mmp (msp x d) (adp x d)) 3
 let x3 := msp (mmp a a) (mmp b 8)
 let z3 := msp (msp (mmp (adp y z) (adp y z)) g) d
 (x3, msp (mmp a (msp (mmp b 4) x3)) (mmp (mmp g g) 8), z3)
set_option maxRecDepth 100000 in
set_option maxHeartbeats 8000000 in
theorem ptwice_calls {gf : Nat} {x y z : Nat} (b_x : x < pP) (b_y : y < pP) (b_z : z < pP) (w : World) (hF : CFld w gf) :
  Calls Try.prog 41 #[cvV gf, thV x y z] w fun e w' => e = .returned (thV (twJ x y z).1 (twJ x y z).2.1 (twJ x y z).2.2) ∧ Below w.heap.size w w' := by
 have HG : Aside0 (gf < w.heap.size) := Aside0.mk hF.size
 obtain ⟨t1, e_t1⟩ : ∃ t, t = z * z % pP := ⟨_, rfl⟩
 have b_t1 : t1 < pP := by rw [e_t1]; exact mod_p _
 obtain ⟨t2, e_t2⟩ : ∃ t, t = y * y % pP := ⟨_, rfl⟩
 have b_t2 : t2 < pP := by rw [e_t2]; exact mod_p _
 obtain ⟨t3, e_t3⟩ : ∃ t, t = x * t2 % pP := ⟨_, rfl⟩
 have b_t3 : t3 < pP := by rw [e_t3]; exact mod_p _
 obtain ⟨t4, e_t4⟩ : ∃ t, t = (x + pP - t1) % pP := ⟨_, rfl⟩
 have b_t4 : t4 < pP := by rw [e_t4]; exact mod_p _
 obtain ⟨t5, e_t5⟩ : ∃ t, t = (x + t1) % pP := ⟨_, rfl⟩
 have b_t5 : t5 < pP := by rw [e_t5]; exact mod_p _
 obtain ⟨t6, e_t6⟩ : ∃ t, t = t4 * t5 % pP := ⟨_, rfl⟩
 have b_t6 : t6 < pP := by rw [e_t6]; exact mod_p _
 obtain ⟨t7, e_t7⟩ : ∃ t, t = t6 * 3 % pP := ⟨_, rfl⟩
 have b_t7 : t7 < pP := by rw [e_t7]; exact mod_p _
 obtain ⟨t8, e_t8⟩ : ∃ t, t = t7 * t7 % pP := ⟨_, rfl⟩
 have b_t8 : t8 < pP := by rw [e_t8]; exact mod_p _
 obtain ⟨t9, e_t9⟩ : ∃ t, t = t3 * 8 % pP := ⟨_, rfl⟩
 have b_t9 : t9 < pP := by rw [e_t9]; exact mod_p _
 obtain ⟨t10, e_t10⟩ : ∃ t, t = (t8 + pP - t9) % pP := ⟨_, rfl⟩
 have b_t10 : t10 < pP := by rw [e_t10]; exact mod_p _
 obtain ⟨t11, e_t11⟩ : ∃ t, t = (y + z) % pP := ⟨_, rfl⟩
 have b_t11 : t11 < pP := by rw [e_t11]; exact mod_p _
 obtain ⟨t12, e_t12⟩ : ∃ t, t = t11 * t11 % pP := ⟨_, rfl⟩
 have b_t12 : t12 < pP := by rw [e_t12]; exact mod_p _
 obtain ⟨t13, e_t13⟩ : ∃ t, t = (t12 + pP - t2) % pP := ⟨_, rfl⟩
 have b_t13 : t13 < pP := by rw [e_t13]; exact mod_p _
 obtain ⟨t14, e_t14⟩ : ∃ t, t = (t13 + pP - t1) % pP := ⟨_, rfl⟩
 have b_t14 : t14 < pP := by rw [e_t14]; exact mod_p _
 obtain ⟨t15, e_t15⟩ : ∃ t, t = t3 * 4 % pP := ⟨_, rfl⟩
 have b_t15 : t15 < pP := by rw [e_t15]; exact mod_p _
 obtain ⟨t16, e_t16⟩ : ∃ t, t = (t15 + pP - t10) % pP := ⟨_, rfl⟩
 have b_t16 : t16 < pP := by rw [e_t16]; exact mod_p _
 obtain ⟨t17, e_t17⟩ : ∃ t, t = t7 * t16 % pP := ⟨_, rfl⟩
 have b_t17 : t17 < pP := by rw [e_t17]; exact mod_p _
 obtain ⟨t18, e_t18⟩ : ∃ t, t = t2 * t2 % pP := ⟨_, rfl⟩
 have b_t18 : t18 < pP := by rw [e_t18]; exact mod_p _
 obtain ⟨t19, e_t19⟩ : ∃ t, t = t18 * 8 % pP := ⟨_, rfl⟩
 have b_t19 : t19 < pP := by rw [e_t19]; exact mod_p _
 obtain ⟨t20, e_t20⟩ : ∃ t, t = (t17 + pP - t19) % pP := ⟨_, rfl⟩
 have b_t20 : t20 < pP := by rw [e_t20]; exact mod_p _
 have K1 := Aside0.mk (fun (u : World) (h : CFld u gf) => psquare_calls b_z u h)
 have K2 := Aside0.mk (fun (u : World) (h : CFld u gf) => psquare_calls b_y u h)
 have K3 := Aside0.mk (fun (u : World) (h : CFld u gf) => pmul_calls b_x b_t2 u h)
 have K4 := Aside0.mk (fun (u : World) (h : CFld u gf) => psub_calls b_x b_t1 u h)
 have K5 := Aside0.mk (fun (u : World) (h : CFld u gf) => padd_calls b_x b_t1 u h)
 have K6 := Aside0.mk (fun (u : World) (h : CFld u gf) => pmul_calls b_t4 b_t5 u h)
 have K7 := Aside0.mk (fun (u : World) (h : CFld u gf) => ptimes_calls b_t6 (show 3 < pP by decide +kernel) (by decide) u h)
 have K8 := Aside0.mk (fun (u : World) (h : CFld u gf) => psquare_calls b_t7 u h)
 have K9 := Aside0.mk (fun (u : World) (h : CFld u gf) => ptimes_calls b_t3 (show 8 < pP by decide +kernel) (by decide) u h)
 have K10 := Aside0.mk (fun (u : World) (h : CFld u gf) => psub_calls b_t8 b_t9 u h)
 have K11 := Aside0.mk (fun (u : World) (h : CFld u gf) => padd_calls b_y b_z u h)
 have K12 := Aside0.mk (fun (u : World) (h : CFld u gf) => psquare_calls b_t11 u h)
 have K13 := Aside0.mk (fun (u : World) (h : CFld u gf) => psub_calls b_t12 b_t2 u h)
 have K14 := Aside0.mk (fun (u : World) (h : CFld u gf) => psub_calls b_t13 b_t1 u h)
 have K15 := Aside0.mk (fun (u : World) (h : CFld u gf) => ptimes_calls b_t3 (show 4 < pP by decide +kernel) (by decide) u h)
 have K16 := Aside0.mk (fun (u : World) (h : CFld u gf) => psub_calls b_t15 b_t10 u h)
 have K17 := Aside0.mk (fun (u : World) (h : CFld u gf) => pmul_calls b_t7 b_t16 u h)
 have K18 := Aside0.mk (fun (u : World) (h : CFld u gf) => psquare_calls b_t2 u h)
 have K19 := Aside0.mk (fun (u : World) (h : CFld u gf) => ptimes_calls b_t18 (show 8 < pP by decide +kernel) (by decide) u h)
 have K20 := Aside0.mk (fun (u : World) (h : CFld u gf) => psub_calls b_t17 b_t19 u h)
 rw [← e_t1] at K1
 rw [← e_t2] at K2
 rw [← e_t3] at K3
 rw [← e_t4] at K4
 rw [← e_t5] at K5
 rw [← e_t6] at K6
 rw [← e_t7] at K7
 rw [← e_t8] at K8
 rw [← e_t9] at K9
 rw [← e_t10] at K10
 rw [← e_t11] at K11
 rw [← e_t12] at K12
 rw [← e_t13] at K13
 rw [← e_t14] at K14
 rw [← e_t15] at K15
 rw [← e_t16] at K16
 rw [← e_t17] at K17
 rw [← e_t18] at K18
 rw [← e_t19] at K19
 rw [← e_t20] at K20
 have hres : twJ x y z = (t10, t20, t14) := by subst e_t1 e_t2 e_t3 e_t4 e_t5 e_t6 e_t7 e_t8 e_t9 e_t10 e_t11 e_t12 e_t13 e_t14 e_t15 e_t16 e_t17 e_t18 e_t19 e_t20; rfl
 rw [hres]
 clear hres e_t1 e_t2 e_t3 e_t4 e_t5 e_t6 e_t7 e_t8 e_t9 e_t10 e_t11 e_t12 e_t13 e_t14 e_t15 e_t16 e_t17 e_t18 e_t19 e_t20 b_t1 b_t2 b_t3 b_t4 b_t5 b_t6 b_t7 b_t8 b_t9 b_t10 b_t11 b_t12 b_t13 b_t14 b_t15 b_t16 b_t17 b_t18 b_t19 b_t20 b_x b_y b_z
 go_enter Try.func41, Try.ntmps41
 go_upto_region 1 with (fail)
 refine wp_at (w2 := (World.alloc (World.alloc (World.alloc w (.cells (cvl gf).toArray 58)) (.cells (hw3 x y z).toArray 62)) (.cells (hw3 0 0 0).toArray 62))) rfl ?_
 obtain ⟨x_0, e_0, h_0, b_0, s_0⟩ := new_CvAt w gf
 obtain ⟨x_1, e_1, h_1, b_1, s_1⟩ := new_ThAt x_0 x y z
 obtain ⟨x_2, e_2, h_2, b_2, s_2⟩ := new_ThAt x_1 0 0 0
 rw [e_0, e_1, e_2]
 rw [s_0] at h_1 s_1
 rw [s_1] at h_2 s_2
 have HB : Aside0 (Below w.heap.size w x_2) := Aside0.mk (bl_both (bl_both b_0 b_1) b_2)
 have HC : Aside0 (CvAt x_2 (w.heap.size) gf) := Aside0.mk ((h_0.on b_1).on b_2)
 have HT : Aside0 (ThAt x_2 (w.heap.size + 1) x y z) := Aside0.mk (h_1.on b_2)
 have HR : Aside0 (ThAt x_2 (w.heap.size + 1 + 1) 0 0 0) := Aside0.mk h_2
 have HS : Aside0 (w.heap.size + 1 + 1 + 1 ≤ x_2.heap.size) := Aside0.mk (Nat.le_of_eq s_2.symm)
 have HF := Aside0.mk (hF.on HB.out)
 clear e_0 h_0 b_0 s_0 e_1 h_1 b_1 s_1 e_2 h_2 b_2 s_2 hF
 obtain ⟨w1, hw_⟩ : ∃ x, x = x_2 := ⟨_, rfl⟩
 subst hw_
 clear x_0 x_1
 refine start_ (n := 12) (S := fun w' => Below w1.heap.size w1 w') (ds := [11]) (bs 12 0) (by kernel_rfl) rfl rfl ((Below.refl _ _).drew) (fun hHeld => ?_)
 refine pu_ 1 13 (bs 12 2) ?_ ?_ ?_ ?_ ?_
 rotate_left
 ·intro w'
  go_simp
  with_reducible rfl
 rotate_left
 ·simp only [aS, i64_w, i32_w]
  rfl
 refine pu_ 5 17 (bs 12 34) ?_ ?_ ?_ ?_ ?_
 rotate_left
 ·intro w'
  go_simp
  with_reducible rfl
 rotate_left
 ·simp only [aS, i64_w, i32_w]
  rfl
 refine take_ (i := 0) (N := some 12) (a' := ?_) (bs 12 35) rfl rfl (by kernel_rfl) (fun _ _ _ h => h) (yieldsIf_load_mid (by rfl) 58 (.tmp 2) rfl w.heap.size 0 rfl ((cvl gf)) _ (fun w' hS => (HC.out.on hS).range) rfl rfl (rfl)) hHeld ?_ ?_
 rotate_left
 ·simp only [aS, i64_w, i32_w]
  rfl
 refine take_ (i := 2) (N := some 14) (a' := ?_) (bs 12 39) rfl rfl (by kernel_rfl) (fun _ _ _ h => h) (yields_num (g := w.heap.size + 1) (o := 8) (n := z) (by rfl) (.tmp 13) rfl rfl (fun w' hS => (HT.out.on hS).rz)) hHeld ?_ ?_
 rotate_left
 ·simp only [aS, i64_w, i32_w]
  rfl
 refine take_ (i := 4) (N := some 16) (a' := ?_) (bs 12 55) rfl rfl (by kernel_rfl) (fun _ _ _ h => h) (yieldsIf_load_mid (by rfl) 58 (.tmp 2) rfl w.heap.size 0 rfl ((cvl gf)) _ (fun w' hS => (HC.out.on hS).range) rfl rfl (rfl)) hHeld ?_ ?_
 rotate_left
 ·simp only [aS, i64_w, i32_w]
  rfl
 refine take_ (i := 6) (N := some 18) (a' := ?_) (bs 12 119) rfl rfl (by kernel_rfl) (fun _ _ _ h => h) (yields_num (g := w.heap.size + 1) (o := 4) (n := y) (by rfl) (.tmp 17) rfl rfl (fun w' hS => (HT.out.on hS).ry)) hHeld ?_ ?_
 rotate_left
 ·simp only [aS, i64_w, i32_w]
  rfl
 refine join_ (σ := Nat × Nat) 2 (bs 12 1023) (fun s => [(5, .pointer (some ⟨s.1, 0, none⟩)), (6, .pointer (some ⟨s.2, 0, none⟩)), (15, numV t1), (19, numV t2)]) (fun s w' => Below w1.heap.size w1 w' ∧ NAt w' s.1 0 ∧ w1.heap.size ≤ s.1 ∧ NAt w' s.2 0 ∧ w1.heap.size ≤ s.2 ∧ s.1 ≠ s.2) ?_ ?_
 rotate_left
 ·intro hCont
  refine three_ (i := 3) (j := 8) (k := 9) (Ni := some 15) (Nj := some 5) (Nk := some 6) (bs 12 127) (bs 12 375) (bs 12 631) rfl rfl rfl rfl rfl rfl (by kernel_rfl) (by decide) (by decide) (by decide) (fun K hK => ?_) (fun K hK => ?_) (fun K hK => ?_)
  ·skip
   refine gs_ Try.func55 #[cvV gf, numV z] rfl ?_
   with_reducible refine (K1.out _ (HF.out.on hHeld)).mono ?_
   rintro e u1 ⟨rfl, hb_u1⟩
   refine ⟨_, rfl, ?_⟩
   have hq_u1 := bl_on hHeld hb_u1 hHeld.size
   refine hK.out _ _ (hq_u1) (fun hHeld => ?_)
   clear hK K
   refine nm_ (some 15) ?_
   refine three_ (i := 7) (j := 8) (k := 9) (Ni := some 19) (Nj := some 5) (Nk := some 6) (bs 12 255) (bs 12 383) (bs 12 639) rfl rfl rfl rfl rfl rfl (by kernel_rfl) (by decide) (by decide) (by decide) (fun K hK => ?_) (fun K hK => ?_) (fun K hK => ?_)
   ·skip
    refine gs_ Try.func55 #[cvV gf, numV y] rfl ?_
    with_reducible refine (K2.out _ (HF.out.on hHeld)).mono ?_
    rintro e u2 ⟨rfl, hb_u2⟩
    refine ⟨_, rfl, ?_⟩
    have hq_u2 := bl_on hHeld hb_u2 hHeld.size
    refine hK.out _ _ (hq_u2) (fun hHeld => ?_)
    clear hK K
    refine nm_ (some 19) ?_
    refine tw_ 8 9 (some 5) (some 6) (bs 12 511) (bs 12 767) rfl rfl (fun K hK => ?_) (fun K hK => ?_)
    ·skip
     refine value_ (w1 := ?_) (v := ?_) (by rfl) rfl ?_ ?_
     rotate_left 2
     ·go_simp
      constructor
      ·rfl
      ·rfl
     have hzg5 : NAt (World.alloc u2 (.cells (nw 0).toArray 24)) (u2.heap.size) 0 := by have h_ := Row.new u2 24 (nw 0); first | exact h_ | (simp only [alloc_sz] at h_; exact h_) | omega
     have hsg5 : w1.heap.size ≤ u2.heap.size := by have h_ := hHeld.size; first | exact h_ | (simp only [alloc_sz] at h_; exact h_) | omega
     refine hK.out _ _ (below_alloc hHeld _) (fun hHeld => ?_)
     clear hK K
     refine nm_ (some 5) ?_
     refine on1_ 9 (some 6) (bs 12 1023) rfl fun K hK => ?_
     refine value_ (w1 := ?_) (v := ?_) (by rfl) rfl ?_ ?_
     rotate_left 2
     ·go_simp
      constructor
      ·rfl
      ·rfl
     have hzg6 : NAt (World.alloc (World.alloc u2 (.cells (nw 0).toArray 24)) (.cells (nw 0).toArray 24)) (u2.heap.size + 1) 0 := by have h_ := Row.new (World.alloc u2 (.cells (nw 0).toArray 24)) 24 (nw 0); first | exact h_ | (simp only [alloc_sz] at h_; exact h_) | omega
     have hsg6 : w1.heap.size ≤ u2.heap.size + 1 := by have h_ := hHeld.size; first | exact h_ | (simp only [alloc_sz] at h_; exact h_) | omega
     have hng5g6 : u2.heap.size < u2.heap.size + 1 := by have h_ := hzg5.size; first | exact h_ | (simp only [alloc_sz] at h_; exact h_) | omega
     replace hzg5 := hzg5.on (below_alloc (Below.refl _ (World.alloc u2 (.cells (nw 0).toArray 24))) (.cells (nw 0).toArray 24))
     refine hK.out _ _ (below_alloc hHeld _) (fun hHeld => ?_)
     clear hK K
     refine nm_ (some 6) ?_
     exact norm_ (by simp only [putAll, aS]) (hCont (u2.heap.size, u2.heap.size + 1) _ ⟨hHeld, hzg5, hsg5, hzg6, hsg6, Nat.ne_of_lt hng5g6⟩)
    ·skip
     refine value_ (w1 := ?_) (v := ?_) (by rfl) rfl ?_ ?_
     rotate_left 2
     ·go_simp
      constructor
      ·rfl
      ·rfl
     have hzg6 : NAt (World.alloc u2 (.cells (nw 0).toArray 24)) (u2.heap.size) 0 := by have h_ := Row.new u2 24 (nw 0); first | exact h_ | (simp only [alloc_sz] at h_; exact h_) | omega
     have hsg6 : w1.heap.size ≤ u2.heap.size := by have h_ := hHeld.size; first | exact h_ | (simp only [alloc_sz] at h_; exact h_) | omega
     refine hK.out _ _ (below_alloc hHeld _) (fun hHeld => ?_)
     clear hK K
     refine nm_ (some 6) ?_
     refine on1_ 8 (some 5) (bs 12 1023) rfl fun K hK => ?_
     refine value_ (w1 := ?_) (v := ?_) (by rfl) rfl ?_ ?_
     rotate_left 2
     ·go_simp
      constructor
      ·rfl
      ·rfl
     have hzg5 : NAt (World.alloc (World.alloc u2 (.cells (nw 0).toArray 24)) (.cells (nw 0).toArray 24)) (u2.heap.size + 1) 0 := by have h_ := Row.new (World.alloc u2 (.cells (nw 0).toArray 24)) 24 (nw 0); first | exact h_ | (simp only [alloc_sz] at h_; exact h_) | omega
     have hsg5 : w1.heap.size ≤ u2.heap.size + 1 := by have h_ := hHeld.size; first | exact h_ | (simp only [alloc_sz] at h_; exact h_) | omega
     have hng6g5 : u2.heap.size < u2.heap.size + 1 := by have h_ := hzg6.size; first | exact h_ | (simp only [alloc_sz] at h_; exact h_) | omega
     replace hzg6 := hzg6.on (below_alloc (Below.refl _ (World.alloc u2 (.cells (nw 0).toArray 24))) (.cells (nw 0).toArray 24))
     refine hK.out _ _ (below_alloc hHeld _) (fun hHeld => ?_)
     clear hK K
     refine nm_ (some 5) ?_
     exact norm_ (by simp only [putAll, aS]) (hCont (u2.heap.size + 1, u2.heap.size) _ ⟨hHeld, hzg5, hsg5, hzg6, hsg6, Nat.ne_of_gt hng6g5⟩)
   ·skip
    refine value_ (w1 := ?_) (v := ?_) (by rfl) rfl ?_ ?_
    rotate_left 2
    ·go_simp
     constructor
     ·rfl
     ·rfl
    have hzg5 : NAt (World.alloc u1 (.cells (nw 0).toArray 24)) (u1.heap.size) 0 := by have h_ := Row.new u1 24 (nw 0); first | exact h_ | (simp only [alloc_sz] at h_; exact h_) | omega
    have hsg5 : w1.heap.size ≤ u1.heap.size := by have h_ := hHeld.size; first | exact h_ | (simp only [alloc_sz] at h_; exact h_) | omega
    refine hK.out _ _ (below_alloc hHeld _) (fun hHeld => ?_)
    clear hK K
    refine nm_ (some 5) ?_
    refine tw_ 7 9 (some 19) (some 6) (bs 12 511) (bs 12 895) rfl rfl (fun K hK => ?_) (fun K hK => ?_)
    ·skip
     refine gs_ Try.func55 #[cvV gf, numV y] rfl ?_
     with_reducible refine (K2.out _ (HF.out.on hHeld)).mono ?_
     rintro e u2 ⟨rfl, hb_u2⟩
     refine ⟨_, rfl, ?_⟩
     have hq_u2 := bl_on hHeld hb_u2 hHeld.size
     replace hzg5 := hzg5.on hb_u2
     refine hK.out _ _ (hq_u2) (fun hHeld => ?_)
     clear hK K
     refine nm_ (some 19) ?_
     refine on1_ 9 (some 6) (bs 12 1023) rfl fun K hK => ?_
     refine value_ (w1 := ?_) (v := ?_) (by rfl) rfl ?_ ?_
     rotate_left 2
     ·go_simp
      constructor
      ·rfl
      ·rfl
     have hzg6 : NAt (World.alloc u2 (.cells (nw 0).toArray 24)) (u2.heap.size) 0 := by have h_ := Row.new u2 24 (nw 0); first | exact h_ | (simp only [alloc_sz] at h_; exact h_) | omega
     have hsg6 : w1.heap.size ≤ u2.heap.size := by have h_ := hHeld.size; first | exact h_ | (simp only [alloc_sz] at h_; exact h_) | omega
     have hng5g6 : u1.heap.size < u2.heap.size := by have h_ := hzg5.size; first | exact h_ | (simp only [alloc_sz] at h_; exact h_) | omega
     replace hzg5 := hzg5.on (below_alloc (Below.refl _ u2) (.cells (nw 0).toArray 24))
     refine hK.out _ _ (below_alloc hHeld _) (fun hHeld => ?_)
     clear hK K
     refine nm_ (some 6) ?_
     exact norm_ (by simp only [putAll, aS]) (hCont (u1.heap.size, u2.heap.size) _ ⟨hHeld, hzg5, hsg5, hzg6, hsg6, Nat.ne_of_lt hng5g6⟩)
    ·skip
     refine value_ (w1 := ?_) (v := ?_) (by rfl) rfl ?_ ?_
     rotate_left 2
     ·go_simp
      constructor
      ·rfl
      ·rfl
     have hzg6 : NAt (World.alloc (World.alloc u1 (.cells (nw 0).toArray 24)) (.cells (nw 0).toArray 24)) (u1.heap.size + 1) 0 := by have h_ := Row.new (World.alloc u1 (.cells (nw 0).toArray 24)) 24 (nw 0); first | exact h_ | (simp only [alloc_sz] at h_; exact h_) | omega
     have hsg6 : w1.heap.size ≤ u1.heap.size + 1 := by have h_ := hHeld.size; first | exact h_ | (simp only [alloc_sz] at h_; exact h_) | omega
     have hng5g6 : u1.heap.size < u1.heap.size + 1 := by have h_ := hzg5.size; first | exact h_ | (simp only [alloc_sz] at h_; exact h_) | omega
     replace hzg5 := hzg5.on (below_alloc (Below.refl _ (World.alloc u1 (.cells (nw 0).toArray 24))) (.cells (nw 0).toArray 24))
     refine hK.out _ _ (below_alloc hHeld _) (fun hHeld => ?_)
     clear hK K
     refine nm_ (some 6) ?_
     refine on1_ 7 (some 19) (bs 12 1023) rfl fun K hK => ?_
     refine gs_ Try.func55 #[cvV gf, numV y] rfl ?_
     with_reducible refine (K2.out _ (HF.out.on hHeld)).mono ?_
     rintro e u2 ⟨rfl, hb_u2⟩
     refine ⟨_, rfl, ?_⟩
     have hq_u2 := bl_on hHeld hb_u2 hHeld.size
     replace hzg5 := hzg5.on hb_u2
     replace hzg6 := hzg6.on hb_u2
     refine hK.out _ _ (hq_u2) (fun hHeld => ?_)
     clear hK K
     refine nm_ (some 19) ?_
     exact norm_ (by simp only [putAll, aS]) (hCont (u1.heap.size, u1.heap.size + 1) _ ⟨hHeld, hzg5, hsg5, hzg6, hsg6, Nat.ne_of_lt hng5g6⟩)
   ·skip
    refine value_ (w1 := ?_) (v := ?_) (by rfl) rfl ?_ ?_
    rotate_left 2
    ·go_simp
     constructor
     ·rfl
     ·rfl
    have hzg6 : NAt (World.alloc u1 (.cells (nw 0).toArray 24)) (u1.heap.size) 0 := by have h_ := Row.new u1 24 (nw 0); first | exact h_ | (simp only [alloc_sz] at h_; exact h_) | omega
    have hsg6 : w1.heap.size ≤ u1.heap.size := by have h_ := hHeld.size; first | exact h_ | (simp only [alloc_sz] at h_; exact h_) | omega
    refine hK.out _ _ (below_alloc hHeld _) (fun hHeld => ?_)
    clear hK K
    refine nm_ (some 6) ?_
    refine tw_ 7 8 (some 19) (some 5) (bs 12 767) (bs 12 895) rfl rfl (fun K hK => ?_) (fun K hK => ?_)
    ·skip
     refine gs_ Try.func55 #[cvV gf, numV y] rfl ?_
     with_reducible refine (K2.out _ (HF.out.on hHeld)).mono ?_
     rintro e u2 ⟨rfl, hb_u2⟩
     refine ⟨_, rfl, ?_⟩
     have hq_u2 := bl_on hHeld hb_u2 hHeld.size
     replace hzg6 := hzg6.on hb_u2
     refine hK.out _ _ (hq_u2) (fun hHeld => ?_)
     clear hK K
     refine nm_ (some 19) ?_
     refine on1_ 8 (some 5) (bs 12 1023) rfl fun K hK => ?_
     refine value_ (w1 := ?_) (v := ?_) (by rfl) rfl ?_ ?_
     rotate_left 2
     ·go_simp
      constructor
      ·rfl
      ·rfl
     have hzg5 : NAt (World.alloc u2 (.cells (nw 0).toArray 24)) (u2.heap.size) 0 := by have h_ := Row.new u2 24 (nw 0); first | exact h_ | (simp only [alloc_sz] at h_; exact h_) | omega
     have hsg5 : w1.heap.size ≤ u2.heap.size := by have h_ := hHeld.size; first | exact h_ | (simp only [alloc_sz] at h_; exact h_) | omega
     have hng6g5 : u1.heap.size < u2.heap.size := by have h_ := hzg6.size; first | exact h_ | (simp only [alloc_sz] at h_; exact h_) | omega
     replace hzg6 := hzg6.on (below_alloc (Below.refl _ u2) (.cells (nw 0).toArray 24))
     refine hK.out _ _ (below_alloc hHeld _) (fun hHeld => ?_)
     clear hK K
     refine nm_ (some 5) ?_
     exact norm_ (by simp only [putAll, aS]) (hCont (u2.heap.size, u1.heap.size) _ ⟨hHeld, hzg5, hsg5, hzg6, hsg6, Nat.ne_of_gt hng6g5⟩)
    ·skip
     refine value_ (w1 := ?_) (v := ?_) (by rfl) rfl ?_ ?_
     rotate_left 2
     ·go_simp
      constructor
      ·rfl
      ·rfl
     have hzg5 : NAt (World.alloc (World.alloc u1 (.cells (nw 0).toArray 24)) (.cells (nw 0).toArray 24)) (u1.heap.size + 1) 0 := by have h_ := Row.new (World.alloc u1 (.cells (nw 0).toArray 24)) 24 (nw 0); first | exact h_ | (simp only [alloc_sz] at h_; exact h_) | omega
     have hsg5 : w1.heap.size ≤ u1.heap.size + 1 := by have h_ := hHeld.size; first | exact h_ | (simp only [alloc_sz] at h_; exact h_) | omega
     have hng6g5 : u1.heap.size < u1.heap.size + 1 := by have h_ := hzg6.size; first | exact h_ | (simp only [alloc_sz] at h_; exact h_) | omega
     replace hzg6 := hzg6.on (below_alloc (Below.refl _ (World.alloc u1 (.cells (nw 0).toArray 24))) (.cells (nw 0).toArray 24))
     refine hK.out _ _ (below_alloc hHeld _) (fun hHeld => ?_)
     clear hK K
     refine nm_ (some 5) ?_
     refine on1_ 7 (some 19) (bs 12 1023) rfl fun K hK => ?_
     refine gs_ Try.func55 #[cvV gf, numV y] rfl ?_
     with_reducible refine (K2.out _ (HF.out.on hHeld)).mono ?_
     rintro e u2 ⟨rfl, hb_u2⟩
     refine ⟨_, rfl, ?_⟩
     have hq_u2 := bl_on hHeld hb_u2 hHeld.size
     replace hzg6 := hzg6.on hb_u2
     replace hzg5 := hzg5.on hb_u2
     refine hK.out _ _ (hq_u2) (fun hHeld => ?_)
     clear hK K
     refine nm_ (some 19) ?_
     exact norm_ (by simp only [putAll, aS]) (hCont (u1.heap.size + 1, u1.heap.size) _ ⟨hHeld, hzg5, hsg5, hzg6, hsg6, Nat.ne_of_gt hng6g5⟩)
  ·skip
   refine value_ (w1 := ?_) (v := ?_) (by rfl) rfl ?_ ?_
   rotate_left 2
   ·go_simp
    constructor
    ·rfl
    ·rfl
   have hzg5 : NAt (World.alloc (World.drew w1) (.cells (nw 0).toArray 24)) (w1.heap.size) 0 := by have h_ := Row.new (World.drew w1) 24 (nw 0); first | exact h_ | (simp only [alloc_sz] at h_; exact h_) | omega
   have hsg5 : w1.heap.size ≤ w1.heap.size := by have h_ := hHeld.size; first | exact h_ | (simp only [alloc_sz] at h_; exact h_) | omega
   refine hK.out _ _ (below_alloc hHeld _) (fun hHeld => ?_)
   clear hK K
   refine nm_ (some 5) ?_
   refine tw_ 3 9 (some 15) (some 6) (bs 12 383) (bs 12 887) rfl rfl (fun K hK => ?_) (fun K hK => ?_)
   ·skip
    refine gs_ Try.func55 #[cvV gf, numV z] rfl ?_
    with_reducible refine (K1.out _ (HF.out.on hHeld)).mono ?_
    rintro e u1 ⟨rfl, hb_u1⟩
    refine ⟨_, rfl, ?_⟩
    have hq_u1 := bl_on hHeld hb_u1 hHeld.size
    replace hzg5 := hzg5.on hb_u1
    refine hK.out _ _ (hq_u1) (fun hHeld => ?_)
    clear hK K
    refine nm_ (some 15) ?_
    refine tw_ 7 9 (some 19) (some 6) (bs 12 511) (bs 12 895) rfl rfl (fun K hK => ?_) (fun K hK => ?_)
    ·skip
     refine gs_ Try.func55 #[cvV gf, numV y] rfl ?_
     with_reducible refine (K2.out _ (HF.out.on hHeld)).mono ?_
     rintro e u2 ⟨rfl, hb_u2⟩
     refine ⟨_, rfl, ?_⟩
     have hq_u2 := bl_on hHeld hb_u2 hHeld.size
     replace hzg5 := hzg5.on hb_u2
     refine hK.out _ _ (hq_u2) (fun hHeld => ?_)
     clear hK K
     refine nm_ (some 19) ?_
     refine on1_ 9 (some 6) (bs 12 1023) rfl fun K hK => ?_
     refine value_ (w1 := ?_) (v := ?_) (by rfl) rfl ?_ ?_
     rotate_left 2
     ·go_simp
      constructor
      ·rfl
      ·rfl
     have hzg6 : NAt (World.alloc u2 (.cells (nw 0).toArray 24)) (u2.heap.size) 0 := by have h_ := Row.new u2 24 (nw 0); first | exact h_ | (simp only [alloc_sz] at h_; exact h_) | omega
     have hsg6 : w1.heap.size ≤ u2.heap.size := by have h_ := hHeld.size; first | exact h_ | (simp only [alloc_sz] at h_; exact h_) | omega
     have hng5g6 : w1.heap.size < u2.heap.size := by have h_ := hzg5.size; first | exact h_ | (simp only [alloc_sz] at h_; exact h_) | omega
     replace hzg5 := hzg5.on (below_alloc (Below.refl _ u2) (.cells (nw 0).toArray 24))
     refine hK.out _ _ (below_alloc hHeld _) (fun hHeld => ?_)
     clear hK K
     refine nm_ (some 6) ?_
     exact norm_ (by simp only [putAll, aS]) (hCont (w1.heap.size, u2.heap.size) _ ⟨hHeld, hzg5, hsg5, hzg6, hsg6, Nat.ne_of_lt hng5g6⟩)
    ·skip
     refine value_ (w1 := ?_) (v := ?_) (by rfl) rfl ?_ ?_
     rotate_left 2
     ·go_simp
      constructor
      ·rfl
      ·rfl
     have hzg6 : NAt (World.alloc u1 (.cells (nw 0).toArray 24)) (u1.heap.size) 0 := by have h_ := Row.new u1 24 (nw 0); first | exact h_ | (simp only [alloc_sz] at h_; exact h_) | omega
     have hsg6 : w1.heap.size ≤ u1.heap.size := by have h_ := hHeld.size; first | exact h_ | (simp only [alloc_sz] at h_; exact h_) | omega
     have hng5g6 : w1.heap.size < u1.heap.size := by have h_ := hzg5.size; first | exact h_ | (simp only [alloc_sz] at h_; exact h_) | omega
     replace hzg5 := hzg5.on (below_alloc (Below.refl _ u1) (.cells (nw 0).toArray 24))
     refine hK.out _ _ (below_alloc hHeld _) (fun hHeld => ?_)
     clear hK K
     refine nm_ (some 6) ?_
     refine on1_ 7 (some 19) (bs 12 1023) rfl fun K hK => ?_
     refine gs_ Try.func55 #[cvV gf, numV y] rfl ?_
     with_reducible refine (K2.out _ (HF.out.on hHeld)).mono ?_
     rintro e u2 ⟨rfl, hb_u2⟩
     refine ⟨_, rfl, ?_⟩
     have hq_u2 := bl_on hHeld hb_u2 hHeld.size
     replace hzg5 := hzg5.on hb_u2
     replace hzg6 := hzg6.on hb_u2
     refine hK.out _ _ (hq_u2) (fun hHeld => ?_)
     clear hK K
     refine nm_ (some 19) ?_
     exact norm_ (by simp only [putAll, aS]) (hCont (w1.heap.size, u1.heap.size) _ ⟨hHeld, hzg5, hsg5, hzg6, hsg6, Nat.ne_of_lt hng5g6⟩)
   ·skip
    refine value_ (w1 := ?_) (v := ?_) (by rfl) rfl ?_ ?_
    rotate_left 2
    ·go_simp
     constructor
     ·rfl
     ·rfl
    have hzg6 : NAt (World.alloc (World.alloc (World.drew w1) (.cells (nw 0).toArray 24)) (.cells (nw 0).toArray 24)) (w1.heap.size + 1) 0 := by have h_ := Row.new (World.alloc (World.drew w1) (.cells (nw 0).toArray 24)) 24 (nw 0); first | exact h_ | (simp only [alloc_sz] at h_; exact h_) | omega
    have hsg6 : w1.heap.size ≤ w1.heap.size + 1 := by have h_ := hHeld.size; first | exact h_ | (simp only [alloc_sz] at h_; exact h_) | omega
    have hng5g6 : w1.heap.size < w1.heap.size + 1 := by have h_ := hzg5.size; first | exact h_ | (simp only [alloc_sz] at h_; exact h_) | omega
    replace hzg5 := hzg5.on (below_alloc (Below.refl _ (World.alloc (World.drew w1) (.cells (nw 0).toArray 24))) (.cells (nw 0).toArray 24))
    refine hK.out _ _ (below_alloc hHeld _) (fun hHeld => ?_)
    clear hK K
    refine nm_ (some 6) ?_
    refine on1_ 3 (some 15) (bs 12 895) rfl fun K hK => ?_
    refine gs_ Try.func55 #[cvV gf, numV z] rfl ?_
    with_reducible refine (K1.out _ (HF.out.on hHeld)).mono ?_
    rintro e u1 ⟨rfl, hb_u1⟩
    refine ⟨_, rfl, ?_⟩
    have hq_u1 := bl_on hHeld hb_u1 hHeld.size
    replace hzg5 := hzg5.on hb_u1
    replace hzg6 := hzg6.on hb_u1
    refine hK.out _ _ (hq_u1) (fun hHeld => ?_)
    clear hK K
    refine nm_ (some 15) ?_
    refine on1_ 7 (some 19) (bs 12 1023) rfl fun K hK => ?_
    refine gs_ Try.func55 #[cvV gf, numV y] rfl ?_
    with_reducible refine (K2.out _ (HF.out.on hHeld)).mono ?_
    rintro e u2 ⟨rfl, hb_u2⟩
    refine ⟨_, rfl, ?_⟩
    have hq_u2 := bl_on hHeld hb_u2 hHeld.size
    replace hzg5 := hzg5.on hb_u2
    replace hzg6 := hzg6.on hb_u2
    refine hK.out _ _ (hq_u2) (fun hHeld => ?_)
    clear hK K
    refine nm_ (some 19) ?_
    exact norm_ (by simp only [putAll, aS]) (hCont (w1.heap.size, w1.heap.size + 1) _ ⟨hHeld, hzg5, hsg5, hzg6, hsg6, Nat.ne_of_lt hng5g6⟩)
  ·skip
   refine value_ (w1 := ?_) (v := ?_) (by rfl) rfl ?_ ?_
   rotate_left 2
   ·go_simp
    constructor
    ·rfl
    ·rfl
   have hzg6 : NAt (World.alloc (World.drew w1) (.cells (nw 0).toArray 24)) (w1.heap.size) 0 := by have h_ := Row.new (World.drew w1) 24 (nw 0); first | exact h_ | (simp only [alloc_sz] at h_; exact h_) | omega
   have hsg6 : w1.heap.size ≤ w1.heap.size := by have h_ := hHeld.size; first | exact h_ | (simp only [alloc_sz] at h_; exact h_) | omega
   refine hK.out _ _ (below_alloc hHeld _) (fun hHeld => ?_)
   clear hK K
   refine nm_ (some 6) ?_
   refine tw_ 3 8 (some 15) (some 5) (bs 12 639) (bs 12 887) rfl rfl (fun K hK => ?_) (fun K hK => ?_)
   ·skip
    refine gs_ Try.func55 #[cvV gf, numV z] rfl ?_
    with_reducible refine (K1.out _ (HF.out.on hHeld)).mono ?_
    rintro e u1 ⟨rfl, hb_u1⟩
    refine ⟨_, rfl, ?_⟩
    have hq_u1 := bl_on hHeld hb_u1 hHeld.size
    replace hzg6 := hzg6.on hb_u1
    refine hK.out _ _ (hq_u1) (fun hHeld => ?_)
    clear hK K
    refine nm_ (some 15) ?_
    refine tw_ 7 8 (some 19) (some 5) (bs 12 767) (bs 12 895) rfl rfl (fun K hK => ?_) (fun K hK => ?_)
    ·skip
     refine gs_ Try.func55 #[cvV gf, numV y] rfl ?_
     with_reducible refine (K2.out _ (HF.out.on hHeld)).mono ?_
     rintro e u2 ⟨rfl, hb_u2⟩
     refine ⟨_, rfl, ?_⟩
     have hq_u2 := bl_on hHeld hb_u2 hHeld.size
     replace hzg6 := hzg6.on hb_u2
     refine hK.out _ _ (hq_u2) (fun hHeld => ?_)
     clear hK K
     refine nm_ (some 19) ?_
     refine on1_ 8 (some 5) (bs 12 1023) rfl fun K hK => ?_
     refine value_ (w1 := ?_) (v := ?_) (by rfl) rfl ?_ ?_
     rotate_left 2
     ·go_simp
      constructor
      ·rfl
      ·rfl
     have hzg5 : NAt (World.alloc u2 (.cells (nw 0).toArray 24)) (u2.heap.size) 0 := by have h_ := Row.new u2 24 (nw 0); first | exact h_ | (simp only [alloc_sz] at h_; exact h_) | omega
     have hsg5 : w1.heap.size ≤ u2.heap.size := by have h_ := hHeld.size; first | exact h_ | (simp only [alloc_sz] at h_; exact h_) | omega
     have hng6g5 : w1.heap.size < u2.heap.size := by have h_ := hzg6.size; first | exact h_ | (simp only [alloc_sz] at h_; exact h_) | omega
     replace hzg6 := hzg6.on (below_alloc (Below.refl _ u2) (.cells (nw 0).toArray 24))
     refine hK.out _ _ (below_alloc hHeld _) (fun hHeld => ?_)
     clear hK K
     refine nm_ (some 5) ?_
     exact norm_ (by simp only [putAll, aS]) (hCont (u2.heap.size, w1.heap.size) _ ⟨hHeld, hzg5, hsg5, hzg6, hsg6, Nat.ne_of_gt hng6g5⟩)
    ·skip
     refine value_ (w1 := ?_) (v := ?_) (by rfl) rfl ?_ ?_
     rotate_left 2
     ·go_simp
      constructor
      ·rfl
      ·rfl
     have hzg5 : NAt (World.alloc u1 (.cells (nw 0).toArray 24)) (u1.heap.size) 0 := by have h_ := Row.new u1 24 (nw 0); first | exact h_ | (simp only [alloc_sz] at h_; exact h_) | omega
     have hsg5 : w1.heap.size ≤ u1.heap.size := by have h_ := hHeld.size; first | exact h_ | (simp only [alloc_sz] at h_; exact h_) | omega
     have hng6g5 : w1.heap.size < u1.heap.size := by have h_ := hzg6.size; first | exact h_ | (simp only [alloc_sz] at h_; exact h_) | omega
     replace hzg6 := hzg6.on (below_alloc (Below.refl _ u1) (.cells (nw 0).toArray 24))
     refine hK.out _ _ (below_alloc hHeld _) (fun hHeld => ?_)
     clear hK K
     refine nm_ (some 5) ?_
     refine on1_ 7 (some 19) (bs 12 1023) rfl fun K hK => ?_
     refine gs_ Try.func55 #[cvV gf, numV y] rfl ?_
     with_reducible refine (K2.out _ (HF.out.on hHeld)).mono ?_
     rintro e u2 ⟨rfl, hb_u2⟩
     refine ⟨_, rfl, ?_⟩
     have hq_u2 := bl_on hHeld hb_u2 hHeld.size
     replace hzg6 := hzg6.on hb_u2
     replace hzg5 := hzg5.on hb_u2
     refine hK.out _ _ (hq_u2) (fun hHeld => ?_)
     clear hK K
     refine nm_ (some 19) ?_
     exact norm_ (by simp only [putAll, aS]) (hCont (u1.heap.size, w1.heap.size) _ ⟨hHeld, hzg5, hsg5, hzg6, hsg6, Nat.ne_of_gt hng6g5⟩)
   ·skip
    refine value_ (w1 := ?_) (v := ?_) (by rfl) rfl ?_ ?_
    rotate_left 2
    ·go_simp
     constructor
     ·rfl
     ·rfl
    have hzg5 : NAt (World.alloc (World.alloc (World.drew w1) (.cells (nw 0).toArray 24)) (.cells (nw 0).toArray 24)) (w1.heap.size + 1) 0 := by have h_ := Row.new (World.alloc (World.drew w1) (.cells (nw 0).toArray 24)) 24 (nw 0); first | exact h_ | (simp only [alloc_sz] at h_; exact h_) | omega
    have hsg5 : w1.heap.size ≤ w1.heap.size + 1 := by have h_ := hHeld.size; first | exact h_ | (simp only [alloc_sz] at h_; exact h_) | omega
    have hng6g5 : w1.heap.size < w1.heap.size + 1 := by have h_ := hzg6.size; first | exact h_ | (simp only [alloc_sz] at h_; exact h_) | omega
    replace hzg6 := hzg6.on (below_alloc (Below.refl _ (World.alloc (World.drew w1) (.cells (nw 0).toArray 24))) (.cells (nw 0).toArray 24))
    refine hK.out _ _ (below_alloc hHeld _) (fun hHeld => ?_)
    clear hK K
    refine nm_ (some 5) ?_
    refine on1_ 3 (some 15) (bs 12 895) rfl fun K hK => ?_
    refine gs_ Try.func55 #[cvV gf, numV z] rfl ?_
    with_reducible refine (K1.out _ (HF.out.on hHeld)).mono ?_
    rintro e u1 ⟨rfl, hb_u1⟩
    refine ⟨_, rfl, ?_⟩
    have hq_u1 := bl_on hHeld hb_u1 hHeld.size
    replace hzg6 := hzg6.on hb_u1
    replace hzg5 := hzg5.on hb_u1
    refine hK.out _ _ (hq_u1) (fun hHeld => ?_)
    clear hK K
    refine nm_ (some 15) ?_
    refine on1_ 7 (some 19) (bs 12 1023) rfl fun K hK => ?_
    refine gs_ Try.func55 #[cvV gf, numV y] rfl ?_
    with_reducible refine (K2.out _ (HF.out.on hHeld)).mono ?_
    rintro e u2 ⟨rfl, hb_u2⟩
    refine ⟨_, rfl, ?_⟩
    have hq_u2 := bl_on hHeld hb_u2 hHeld.size
    replace hzg6 := hzg6.on hb_u2
    replace hzg5 := hzg5.on hb_u2
    refine hK.out _ _ (hq_u2) (fun hHeld => ?_)
    clear hK K
    refine nm_ (some 19) ?_
    exact norm_ (by simp only [putAll, aS]) (hCont (w1.heap.size + 1, w1.heap.size) _ ⟨hHeld, hzg5, hsg5, hzg6, hsg6, Nat.ne_of_gt hng6g5⟩)
 rintro ⟨g5, g6⟩ v3 ⟨hHeld0, hzg5, hsg5, hzg6, hsg6, hneg5g6⟩
 have hHeld : Below w1.heap.size w1 v3 := hHeld0
 clear hHeld0
 refine norm_ (a' := ?_) ?_ ?_
 rotate_left
 ·simp only [putAll, aS]
  rfl
 refine on1_ 10 none (bs 12 2047) rfl fun K hK => ?_
 refine skip_num (hzg5) (by rfl) rfl (.tmp 5) (.tmp 15) rfl rfl rfl ?_
 intro q4 hA_q4 hT_q4
 refine hK.out _ _ (bl_but hHeld hT_q4 hHeld.size hsg5) (fun hHeld => ?_)
 clear hK K
 refine last_ (i := 11) (N := none) (bs 12 4095) rfl rfl (by kernel_rfl) (by decide) (fun K hK => ?_)
 refine skip_num ((hzg6).but hT_q4 hneg5g6.symm) (by rfl) rfl (.tmp 6) (.tmp 19) rfl rfl rfl ?_
 intro q5 hA_q5 hT_q5
 refine hK.out _ _ ?_
 clear hK K
 refine done_ (by kernel_rfl) ?_
 have HXg5 : Aside0 (w.heap.size + 1 + 1 + 1 ≤ g5) := Aside0.mk (Nat.le_trans HS.out hsg5)
 have HXg6 : Aside0 (w.heap.size + 1 + 1 + 1 ≤ g6) := Aside0.mk (Nat.le_trans HS.out hsg6)
 have HXg5g6 : Aside0 (g5 ≠ g6) := Aside0.mk hneg5g6
 replace HC := Aside0.mk (HC.out.on hHeld)
 replace HT := Aside0.mk (HT.out.on hHeld)
 replace HR := Aside0.mk (HR.out.on hHeld)
 replace HF := Aside0.mk (HF.out.on hHeld)
 replace HB := Aside0.mk (bl_on HB.out hHeld HB.out.size)
 replace HS := Aside0.mk (Nat.le_trans HS.out hHeld.size)
 have Hg5 := Aside0.mk hA_q4
 replace HC := Aside0.mk (HC.out.but hT_q5 (by have := HXg5.out; have := HXg6.out; have := HXg5g6.out; have := HG.out; omega))
 replace HT := Aside0.mk (HT.out.but hT_q5 (by have := HXg5.out; have := HXg6.out; have := HXg5g6.out; have := HG.out; omega))
 replace HR := Aside0.mk (HR.out.but hT_q5 (by have := HXg5.out; have := HXg6.out; have := HXg5g6.out; have := HG.out; omega))
 replace Hg5 := Aside0.mk (Hg5.out.but hT_q5 (by have := HXg5.out; have := HXg6.out; have := HXg5g6.out; have := HG.out; omega))
 replace HF := Aside0.mk (HF.out.but hT_q5 (by have := HXg5.out; have := HXg6.out; have := HXg5g6.out; have := HG.out; omega))
 have Hg6 := Aside0.mk hA_q5
 replace HB := Aside0.mk (bl_but HB.out hT_q5 HB.out.size (by have := HXg5.out; have := HXg6.out; have := HXg5g6.out; have := HG.out; omega))
 replace HS := Aside0.mk (Nat.le_trans HS.out hT_q5.size)
 clear hA_q4 hT_q4 hA_q5 hT_q5 hzg5 hsg5 hzg6 hsg6 hneg5g6 hHeld
 have cq0 := HC.out.c3
 go_upto_region 3 with (first | ((with_reducible refine gate_dst (N := 23) rfl ?_); refine ld_num (HT.out.rx) rfl _ rfl rfl ?_) | ((with_reducible refine gate_dst (N := 24) rfl ?_); refine ld_num (Hg6.out.range) rfl _ rfl rfl ?_) | ((with_reducible refine gate_dst (N := 25) rfl ?_); refine goesFL_ (some 25) rfl rfl (.tmp 21) Try.func53 (by kernel_rfl) rfl gf (numV x) (numV t2) rfl rfl (by (try simp only [List.map_toArray, List.map_cons, List.map_nil]); first | done | rfl) ?_; (with_reducible refine (K3.out _ (HF.out)).mono ?_); rintro e u6 ⟨rfl, hb_⟩; refine ⟨_, rfl, ?_⟩; replace HC := Aside0.mk (HC.out.on hb_); replace HT := Aside0.mk (HT.out.on hb_); replace HR := Aside0.mk (HR.out.on hb_); replace Hg5 := Aside0.mk (Hg5.out.on hb_); replace Hg6 := Aside0.mk (Hg6.out.on hb_); replace HF := Aside0.mk (HF.out.on hb_); replace HB := Aside0.mk (bl_on HB.out hb_ HB.out.size); replace HS := Aside0.mk (Nat.le_trans HS.out hb_.size); replace cq0 := HC.out.c3; clear hb_) | ((with_reducible refine gate_dst (N := 7) rfl ?_); refine al_num rfl _ rfl rfl ?_; intro g7 u7 eg_ hn_ hb_; have HXg7 : Aside0 (w.heap.size + 1 + 1 + 1 ≤ g7 ∧ g5 < g7 ∧ g6 < g7) := Aside0.mk (by rw [eg_]; exact ⟨HS.out, Hg5.out.size, Hg6.out.size⟩); replace HC := Aside0.mk (HC.out.on hb_); replace HT := Aside0.mk (HT.out.on hb_); replace HR := Aside0.mk (HR.out.on hb_); replace Hg5 := Aside0.mk (Hg5.out.on hb_); replace Hg6 := Aside0.mk (Hg6.out.on hb_); replace HF := Aside0.mk (HF.out.on hb_); replace HB := Aside0.mk (bl_on HB.out hb_ HB.out.size); replace HS := Aside0.mk (Nat.le_trans HS.out hb_.size); replace cq0 := HC.out.c3; have Hg7 := Aside0.mk hn_; clear hn_ hb_ eg_) | ((with_reducible refine gate_st (y := .tmp 25) rfl ?_); (try simp only [aS]); refine st_num Hg7.out rfl _ _ rfl rfl rfl ?_; intro u8 hn_ hb_; replace HC := Aside0.mk (HC.out.but hb_ (by have := HXg5.out; have := HXg6.out; have := HXg7.out; have := HXg5g6.out; have := HG.out; omega)); replace HT := Aside0.mk (HT.out.but hb_ (by have := HXg5.out; have := HXg6.out; have := HXg7.out; have := HXg5g6.out; have := HG.out; omega)); replace HR := Aside0.mk (HR.out.but hb_ (by have := HXg5.out; have := HXg6.out; have := HXg7.out; have := HXg5g6.out; have := HG.out; omega)); replace Hg5 := Aside0.mk (Hg5.out.but hb_ (by have := HXg5.out; have := HXg6.out; have := HXg7.out; have := HXg5g6.out; have := HG.out; omega)); replace Hg6 := Aside0.mk (Hg6.out.but hb_ (by have := HXg5.out; have := HXg6.out; have := HXg7.out; have := HXg5g6.out; have := HG.out; omega)); replace HF := Aside0.mk (HF.out.but hb_ (by have := HXg5.out; have := HXg6.out; have := HXg7.out; have := HXg5g6.out; have := HG.out; omega)); replace Hg7 := Aside0.mk hn_; replace HB := Aside0.mk (bl_but HB.out hb_ HB.out.size (by have := HXg5.out; have := HXg6.out; have := HXg7.out; have := HXg5g6.out; have := HG.out; omega)); replace HS := Aside0.mk (Nat.le_trans HS.out hb_.size); replace cq0 := HC.out.c3; clear hn_ hb_))
 clear cq0
 refine start_ (n := 19) (S := fun w' => Below u8.heap.size u8 w' ∧ w'.cell? ⟨w.heap.size, 3, none⟩ = some (mthV 53 gf) ∧ w'.cell? ⟨w.heap.size, 2, none⟩ = some (mthV 52 gf) ∧ w'.cell? ⟨w.heap.size, 1, none⟩ = some (mthV 51 gf)) (ds := [18]) (bs 19 0) (by kernel_rfl) rfl rfl ⟨(Below.refl _ _).drew, HC.out.c3, HC.out.c2, HC.out.c1⟩ (fun hHeld => ?_)
 refine pu_ 1 27 (bs 19 2) ?_ ?_ ?_ ?_ ?_
 rotate_left
 ·intro w'
  go_simp
  with_reducible rfl
 rotate_left
 ·simp only [aS, i64_w, i32_w]
  rfl
 refine pu_ 3 29 (bs 19 10) ?_ ?_ ?_ ?_ ?_
 rotate_left
 ·intro w'
  go_simp
  with_reducible rfl
 rotate_left
 ·simp only [aS, i64_w, i32_w]
  rfl
 refine pu_ 5 31 (bs 19 42) ?_ ?_ ?_ ?_ ?_
 rotate_left
 ·intro w'
  go_simp
  with_reducible rfl
 rotate_left
 ·simp only [aS, i64_w, i32_w]
  rfl
 refine pu_ 9 35 (bs 19 554) ?_ ?_ ?_ ?_ ?_
 rotate_left
 ·intro w'
  go_simp
  with_reducible rfl
 rotate_left
 ·simp only [aS, i64_w, i32_w]
  rfl
 refine pu_ 11 37 (bs 19 2602) ?_ ?_ ?_ ?_ ?_
 rotate_left
 ·intro w'
  go_simp
  with_reducible rfl
 rotate_left
 ·simp only [aS, i64_w, i32_w]
  rfl
 refine take_ (i := 0) (N := some 26) (a' := ?_) (bs 19 2603) rfl rfl (by kernel_rfl) (fun _ _ _ h => h) (yieldsIf_load_mid (by rfl) 58 (.tmp 2) rfl w.heap.size 0 rfl ((cvl gf)) _ (fun w' hS => (HC.out.on hS.1).range) rfl rfl (rfl)) hHeld ?_ ?_
 rotate_left
 ·simp only [aS, i64_w, i32_w]
  rfl
 refine tk_ 2 28 (bs 19 2607) ?_ ?_ hHeld ?_ ?_ ?_
 rotate_left
 ·rintro w' ⟨s0, s1, s2, s3⟩
  go_simp
  with_reducible rfl
 rotate_left
 ·simp only [aS, i64_w, i32_w]
  rfl
 refine tk_ 4 30 (bs 19 2623) ?_ ?_ hHeld ?_ ?_ ?_
 rotate_left
 ·rintro w' ⟨s0, s1, s2, s3⟩
  go_simp
  with_reducible rfl
 rotate_left
 ·simp only [aS, i64_w, i32_w]
  rfl
 refine take_ (i := 6) (N := some 32) (a' := ?_) (bs 19 2687) rfl rfl (by kernel_rfl) (fun _ _ _ h => h) (yields_num (g := w.heap.size + 1) (o := 0) (n := x) (by rfl) (.tmp 31) rfl rfl (fun w' hS => (HT.out.on hS.1).rx)) hHeld ?_ ?_
 rotate_left
 ·simp only [aS, i64_w, i32_w]
  rfl
 refine take_ (i := 7) (N := some 33) (a' := ?_) (bs 19 2815) rfl rfl (by kernel_rfl) (fun _ _ _ h => h) (yields_num (g := g5) (o := 0) (n := t1) (by rfl) (.tmp 5) rfl rfl (fun w' hS => (Hg5.out.on hS.1).range)) hHeld ?_ ?_
 rotate_left
 ·simp only [aS, i64_w, i32_w]
  rfl
 refine tk_ 10 36 (bs 19 3839) ?_ ?_ hHeld ?_ ?_ ?_
 rotate_left
 ·rintro w' ⟨s0, s1, s2, s3⟩
  go_simp
  with_reducible rfl
 rotate_left
 ·simp only [aS, i64_w, i32_w]
  rfl
 refine take_ (i := 12) (N := some 38) (a' := ?_) (bs 19 7935) rfl rfl (by kernel_rfl) (fun _ _ _ h => h) (yields_num (g := w.heap.size + 1) (o := 0) (n := x) (by rfl) (.tmp 37) rfl rfl (fun w' hS => (HT.out.on hS.1).rx)) hHeld ?_ ?_
 rotate_left
 ·simp only [aS, i64_w, i32_w]
  rfl
 refine take_ (i := 13) (N := some 39) (a' := ?_) (bs 19 16127) rfl rfl (by kernel_rfl) (fun _ _ _ h => h) (yields_num (g := g5) (o := 0) (n := t1) (by rfl) (.tmp 5) rfl rfl (fun w' hS => (Hg5.out.on hS.1).range)) hHeld ?_ ?_
 rotate_left
 ·simp only [aS, i64_w, i32_w]
  rfl
 refine join_ (σ := Nat) 1 (bs 19 262143) (fun s => [(8, .pointer (some ⟨s, 0, none⟩)), (34, numV t4), (40, numV t5), (41, numV t6), (42, numV t7)]) (fun s w' => Below u8.heap.size u8 w' ∧ NAt w' s 0 ∧ u8.heap.size ≤ s) ?_ ?_
 rotate_left
 ·intro hCont
  refine tw_ 8 17 (some 34) (some 8) (bs 19 16383) (bs 19 147199) rfl rfl (fun K hK => ?_) (fun K hK => ?_)
  ·skip
   refine gF_ Try.func52 gf (numV x) (numV t1) rfl ?_
   with_reducible refine (K4.out _ (HF.out.on hHeld.1)).mono ?_
   rintro e u9 ⟨rfl, hb_u9⟩
   refine ⟨_, rfl, ?_⟩
   have hq_u9 := bl_on hHeld.1 hb_u9 hHeld.1.size
   refine hK.out _ _ ⟨hq_u9, (HC.out.on (hq_u9)).c3, (HC.out.on (hq_u9)).c2, (HC.out.on (hq_u9)).c1⟩ (fun hHeld => ?_)
   clear hK K
   refine nm_ (some 34) ?_
   refine tw_ 14 17 (some 40) (some 8) (bs 19 32767) (bs 19 147455) rfl rfl (fun K hK => ?_) (fun K hK => ?_)
   ·skip
    refine gF_ Try.func51 gf (numV x) (numV t1) rfl ?_
    with_reducible refine (K5.out _ (HF.out.on hHeld.1)).mono ?_
    rintro e u10 ⟨rfl, hb_u10⟩
    refine ⟨_, rfl, ?_⟩
    have hq_u10 := bl_on hHeld.1 hb_u10 hHeld.1.size
    refine hK.out _ _ ⟨hq_u10, (HC.out.on (hq_u10)).c3, (HC.out.on (hq_u10)).c2, (HC.out.on (hq_u10)).c1⟩ (fun hHeld => ?_)
    clear hK K
    refine nm_ (some 40) ?_
    refine tw_ 15 17 (some 41) (some 8) (bs 19 65535) (bs 19 163839) rfl rfl (fun K hK => ?_) (fun K hK => ?_)
    ·skip
     refine gF_ Try.func53 gf (numV t4) (numV t5) rfl ?_
     with_reducible refine (K6.out _ (HF.out.on hHeld.1)).mono ?_
     rintro e u11 ⟨rfl, hb_u11⟩
     refine ⟨_, rfl, ?_⟩
     have hq_u11 := bl_on hHeld.1 hb_u11 hHeld.1.size
     refine hK.out _ _ ⟨hq_u11, (HC.out.on (hq_u11)).c3, (HC.out.on (hq_u11)).c2, (HC.out.on (hq_u11)).c1⟩ (fun hHeld => ?_)
     clear hK K
     refine nm_ (some 41) ?_
     refine tw_ 16 17 (some 42) (some 8) (bs 19 131071) (bs 19 196607) rfl rfl (fun K hK => ?_) (fun K hK => ?_)
     ·skip
      refine gs_ Try.func56 #[cvV gf, numV t6, .int .u64 ((3 : Nat) : Int)] rfl ?_
      with_reducible refine (K7.out _ (HF.out.on hHeld.1)).mono ?_
      rintro e u12 ⟨rfl, hb_u12⟩
      refine ⟨_, rfl, ?_⟩
      have hq_u12 := bl_on hHeld.1 hb_u12 hHeld.1.size
      refine hK.out _ _ ⟨hq_u12, (HC.out.on (hq_u12)).c3, (HC.out.on (hq_u12)).c2, (HC.out.on (hq_u12)).c1⟩ (fun hHeld => ?_)
      clear hK K
      refine nm_ (some 42) ?_
      refine on1_ 17 (some 8) (bs 19 262143) rfl fun K hK => ?_
      refine value_ (w1 := ?_) (v := ?_) (by rfl) rfl ?_ ?_
      rotate_left 2
      ·go_simp
       constructor
       ·rfl
       ·rfl
      have hzg8 : NAt (World.alloc u12 (.cells (nw 0).toArray 24)) (u12.heap.size) 0 := by have h_ := Row.new u12 24 (nw 0); first | exact h_ | (simp only [alloc_sz] at h_; exact h_) | omega
      have hsg8 : u8.heap.size ≤ u12.heap.size := by have h_ := hHeld.1.size; first | exact h_ | (simp only [alloc_sz] at h_; exact h_) | omega
      refine hK.out _ _ ⟨below_alloc hHeld.1 _, (HC.out.on (below_alloc hHeld.1 _)).c3, (HC.out.on (below_alloc hHeld.1 _)).c2, (HC.out.on (below_alloc hHeld.1 _)).c1⟩ (fun hHeld => ?_)
      clear hK K
      refine nm_ (some 8) ?_
      exact norm_ (by simp only [putAll, aS]) (hCont (u12.heap.size) _ ⟨hHeld.1, hzg8, hsg8⟩)
     ·skip
      refine value_ (w1 := ?_) (v := ?_) (by rfl) rfl ?_ ?_
      rotate_left 2
      ·go_simp
       constructor
       ·rfl
       ·rfl
      have hzg8 : NAt (World.alloc u11 (.cells (nw 0).toArray 24)) (u11.heap.size) 0 := by have h_ := Row.new u11 24 (nw 0); first | exact h_ | (simp only [alloc_sz] at h_; exact h_) | omega
      have hsg8 : u8.heap.size ≤ u11.heap.size := by have h_ := hHeld.1.size; first | exact h_ | (simp only [alloc_sz] at h_; exact h_) | omega
      refine hK.out _ _ ⟨below_alloc hHeld.1 _, (HC.out.on (below_alloc hHeld.1 _)).c3, (HC.out.on (below_alloc hHeld.1 _)).c2, (HC.out.on (below_alloc hHeld.1 _)).c1⟩ (fun hHeld => ?_)
      clear hK K
      refine nm_ (some 8) ?_
      refine on1_ 16 (some 42) (bs 19 262143) rfl fun K hK => ?_
      refine gs_ Try.func56 #[cvV gf, numV t6, .int .u64 ((3 : Nat) : Int)] rfl ?_
      with_reducible refine (K7.out _ (HF.out.on hHeld.1)).mono ?_
      rintro e u12 ⟨rfl, hb_u12⟩
      refine ⟨_, rfl, ?_⟩
      have hq_u12 := bl_on hHeld.1 hb_u12 hHeld.1.size
      replace hzg8 := hzg8.on hb_u12
      refine hK.out _ _ ⟨hq_u12, (HC.out.on (hq_u12)).c3, (HC.out.on (hq_u12)).c2, (HC.out.on (hq_u12)).c1⟩ (fun hHeld => ?_)
      clear hK K
      refine nm_ (some 42) ?_
      exact norm_ (by simp only [putAll, aS]) (hCont (u11.heap.size) _ ⟨hHeld.1, hzg8, hsg8⟩)
    ·skip
     refine value_ (w1 := ?_) (v := ?_) (by rfl) rfl ?_ ?_
     rotate_left 2
     ·go_simp
      constructor
      ·rfl
      ·rfl
     have hzg8 : NAt (World.alloc u10 (.cells (nw 0).toArray 24)) (u10.heap.size) 0 := by have h_ := Row.new u10 24 (nw 0); first | exact h_ | (simp only [alloc_sz] at h_; exact h_) | omega
     have hsg8 : u8.heap.size ≤ u10.heap.size := by have h_ := hHeld.1.size; first | exact h_ | (simp only [alloc_sz] at h_; exact h_) | omega
     refine hK.out _ _ ⟨below_alloc hHeld.1 _, (HC.out.on (below_alloc hHeld.1 _)).c3, (HC.out.on (below_alloc hHeld.1 _)).c2, (HC.out.on (below_alloc hHeld.1 _)).c1⟩ (fun hHeld => ?_)
     clear hK K
     refine nm_ (some 8) ?_
     refine on1_ 15 (some 41) (bs 19 196607) rfl fun K hK => ?_
     refine gF_ Try.func53 gf (numV t4) (numV t5) rfl ?_
     with_reducible refine (K6.out _ (HF.out.on hHeld.1)).mono ?_
     rintro e u11 ⟨rfl, hb_u11⟩
     refine ⟨_, rfl, ?_⟩
     have hq_u11 := bl_on hHeld.1 hb_u11 hHeld.1.size
     replace hzg8 := hzg8.on hb_u11
     refine hK.out _ _ ⟨hq_u11, (HC.out.on (hq_u11)).c3, (HC.out.on (hq_u11)).c2, (HC.out.on (hq_u11)).c1⟩ (fun hHeld => ?_)
     clear hK K
     refine nm_ (some 41) ?_
     refine on1_ 16 (some 42) (bs 19 262143) rfl fun K hK => ?_
     refine gs_ Try.func56 #[cvV gf, numV t6, .int .u64 ((3 : Nat) : Int)] rfl ?_
     with_reducible refine (K7.out _ (HF.out.on hHeld.1)).mono ?_
     rintro e u12 ⟨rfl, hb_u12⟩
     refine ⟨_, rfl, ?_⟩
     have hq_u12 := bl_on hHeld.1 hb_u12 hHeld.1.size
     replace hzg8 := hzg8.on hb_u12
     refine hK.out _ _ ⟨hq_u12, (HC.out.on (hq_u12)).c3, (HC.out.on (hq_u12)).c2, (HC.out.on (hq_u12)).c1⟩ (fun hHeld => ?_)
     clear hK K
     refine nm_ (some 42) ?_
     exact norm_ (by simp only [putAll, aS]) (hCont (u10.heap.size) _ ⟨hHeld.1, hzg8, hsg8⟩)
   ·skip
    refine value_ (w1 := ?_) (v := ?_) (by rfl) rfl ?_ ?_
    rotate_left 2
    ·go_simp
     constructor
     ·rfl
     ·rfl
    have hzg8 : NAt (World.alloc u9 (.cells (nw 0).toArray 24)) (u9.heap.size) 0 := by have h_ := Row.new u9 24 (nw 0); first | exact h_ | (simp only [alloc_sz] at h_; exact h_) | omega
    have hsg8 : u8.heap.size ≤ u9.heap.size := by have h_ := hHeld.1.size; first | exact h_ | (simp only [alloc_sz] at h_; exact h_) | omega
    refine hK.out _ _ ⟨below_alloc hHeld.1 _, (HC.out.on (below_alloc hHeld.1 _)).c3, (HC.out.on (below_alloc hHeld.1 _)).c2, (HC.out.on (below_alloc hHeld.1 _)).c1⟩ (fun hHeld => ?_)
    clear hK K
    refine nm_ (some 8) ?_
    refine on1_ 14 (some 40) (bs 19 163839) rfl fun K hK => ?_
    refine gF_ Try.func51 gf (numV x) (numV t1) rfl ?_
    with_reducible refine (K5.out _ (HF.out.on hHeld.1)).mono ?_
    rintro e u10 ⟨rfl, hb_u10⟩
    refine ⟨_, rfl, ?_⟩
    have hq_u10 := bl_on hHeld.1 hb_u10 hHeld.1.size
    replace hzg8 := hzg8.on hb_u10
    refine hK.out _ _ ⟨hq_u10, (HC.out.on (hq_u10)).c3, (HC.out.on (hq_u10)).c2, (HC.out.on (hq_u10)).c1⟩ (fun hHeld => ?_)
    clear hK K
    refine nm_ (some 40) ?_
    refine on1_ 15 (some 41) (bs 19 196607) rfl fun K hK => ?_
    refine gF_ Try.func53 gf (numV t4) (numV t5) rfl ?_
    with_reducible refine (K6.out _ (HF.out.on hHeld.1)).mono ?_
    rintro e u11 ⟨rfl, hb_u11⟩
    refine ⟨_, rfl, ?_⟩
    have hq_u11 := bl_on hHeld.1 hb_u11 hHeld.1.size
    replace hzg8 := hzg8.on hb_u11
    refine hK.out _ _ ⟨hq_u11, (HC.out.on (hq_u11)).c3, (HC.out.on (hq_u11)).c2, (HC.out.on (hq_u11)).c1⟩ (fun hHeld => ?_)
    clear hK K
    refine nm_ (some 41) ?_
    refine on1_ 16 (some 42) (bs 19 262143) rfl fun K hK => ?_
    refine gs_ Try.func56 #[cvV gf, numV t6, .int .u64 ((3 : Nat) : Int)] rfl ?_
    with_reducible refine (K7.out _ (HF.out.on hHeld.1)).mono ?_
    rintro e u12 ⟨rfl, hb_u12⟩
    refine ⟨_, rfl, ?_⟩
    have hq_u12 := bl_on hHeld.1 hb_u12 hHeld.1.size
    replace hzg8 := hzg8.on hb_u12
    refine hK.out _ _ ⟨hq_u12, (HC.out.on (hq_u12)).c3, (HC.out.on (hq_u12)).c2, (HC.out.on (hq_u12)).c1⟩ (fun hHeld => ?_)
    clear hK K
    refine nm_ (some 42) ?_
    exact norm_ (by simp only [putAll, aS]) (hCont (u9.heap.size) _ ⟨hHeld.1, hzg8, hsg8⟩)
  ·skip
   refine value_ (w1 := ?_) (v := ?_) (by rfl) rfl ?_ ?_
   rotate_left 2
   ·go_simp
    constructor
    ·rfl
    ·rfl
   have hzg8 : NAt (World.alloc (World.drew u8) (.cells (nw 0).toArray 24)) (u8.heap.size) 0 := by have h_ := Row.new (World.drew u8) 24 (nw 0); first | exact h_ | (simp only [alloc_sz] at h_; exact h_) | omega
   have hsg8 : u8.heap.size ≤ u8.heap.size := by have h_ := hHeld.1.size; first | exact h_ | (simp only [alloc_sz] at h_; exact h_) | omega
   refine hK.out _ _ ⟨below_alloc hHeld.1 _, (HC.out.on (below_alloc hHeld.1 _)).c3, (HC.out.on (below_alloc hHeld.1 _)).c2, (HC.out.on (below_alloc hHeld.1 _)).c1⟩ (fun hHeld => ?_)
   clear hK K
   refine nm_ (some 8) ?_
   refine on1_ 8 (some 34) (bs 19 147455) rfl fun K hK => ?_
   refine gF_ Try.func52 gf (numV x) (numV t1) rfl ?_
   with_reducible refine (K4.out _ (HF.out.on hHeld.1)).mono ?_
   rintro e u9 ⟨rfl, hb_u9⟩
   refine ⟨_, rfl, ?_⟩
   have hq_u9 := bl_on hHeld.1 hb_u9 hHeld.1.size
   replace hzg8 := hzg8.on hb_u9
   refine hK.out _ _ ⟨hq_u9, (HC.out.on (hq_u9)).c3, (HC.out.on (hq_u9)).c2, (HC.out.on (hq_u9)).c1⟩ (fun hHeld => ?_)
   clear hK K
   refine nm_ (some 34) ?_
   refine on1_ 14 (some 40) (bs 19 163839) rfl fun K hK => ?_
   refine gF_ Try.func51 gf (numV x) (numV t1) rfl ?_
   with_reducible refine (K5.out _ (HF.out.on hHeld.1)).mono ?_
   rintro e u10 ⟨rfl, hb_u10⟩
   refine ⟨_, rfl, ?_⟩
   have hq_u10 := bl_on hHeld.1 hb_u10 hHeld.1.size
   replace hzg8 := hzg8.on hb_u10
   refine hK.out _ _ ⟨hq_u10, (HC.out.on (hq_u10)).c3, (HC.out.on (hq_u10)).c2, (HC.out.on (hq_u10)).c1⟩ (fun hHeld => ?_)
   clear hK K
   refine nm_ (some 40) ?_
   refine on1_ 15 (some 41) (bs 19 196607) rfl fun K hK => ?_
   refine gF_ Try.func53 gf (numV t4) (numV t5) rfl ?_
   with_reducible refine (K6.out _ (HF.out.on hHeld.1)).mono ?_
   rintro e u11 ⟨rfl, hb_u11⟩
   refine ⟨_, rfl, ?_⟩
   have hq_u11 := bl_on hHeld.1 hb_u11 hHeld.1.size
   replace hzg8 := hzg8.on hb_u11
   refine hK.out _ _ ⟨hq_u11, (HC.out.on (hq_u11)).c3, (HC.out.on (hq_u11)).c2, (HC.out.on (hq_u11)).c1⟩ (fun hHeld => ?_)
   clear hK K
   refine nm_ (some 41) ?_
   refine on1_ 16 (some 42) (bs 19 262143) rfl fun K hK => ?_
   refine gs_ Try.func56 #[cvV gf, numV t6, .int .u64 ((3 : Nat) : Int)] rfl ?_
   with_reducible refine (K7.out _ (HF.out.on hHeld.1)).mono ?_
   rintro e u12 ⟨rfl, hb_u12⟩
   refine ⟨_, rfl, ?_⟩
   have hq_u12 := bl_on hHeld.1 hb_u12 hHeld.1.size
   replace hzg8 := hzg8.on hb_u12
   refine hK.out _ _ ⟨hq_u12, (HC.out.on (hq_u12)).c3, (HC.out.on (hq_u12)).c2, (HC.out.on (hq_u12)).c1⟩ (fun hHeld => ?_)
   clear hK K
   refine nm_ (some 42) ?_
   exact norm_ (by simp only [putAll, aS]) (hCont (u8.heap.size) _ ⟨hHeld.1, hzg8, hsg8⟩)
 rintro g8 v13 ⟨hHeld0, hzg8, hsg8⟩
 have hHeld : Below u8.heap.size u8 v13 ∧ v13.cell? ⟨w.heap.size, 3, none⟩ = some (mthV 53 gf) ∧ v13.cell? ⟨w.heap.size, 2, none⟩ = some (mthV 52 gf) ∧ v13.cell? ⟨w.heap.size, 1, none⟩ = some (mthV 51 gf) := ⟨hHeld0, (HC.out.on (hHeld0)).c3, (HC.out.on (hHeld0)).c2, (HC.out.on (hHeld0)).c1⟩
 clear hHeld0
 refine norm_ (a' := ?_) ?_ ?_
 rotate_left
 ·simp only [putAll, aS]
  rfl
 refine last_ (i := 18) (N := none) (bs 19 524287) rfl rfl (by kernel_rfl) (by decide) (fun K hK => ?_)
 refine skip_num (hzg8) (by rfl) rfl (.tmp 8) (.tmp 42) rfl rfl rfl ?_
 intro q14 hA_q14 hT_q14
 refine hK.out _ _ ?_
 clear hK K
 refine done_ (by kernel_rfl) ?_
 have HXg8 : Aside0 (w.heap.size + 1 + 1 + 1 ≤ g8 ∧ g5 < g8 ∧ g6 < g8 ∧ g7 < g8) := Aside0.mk (⟨Nat.le_trans HS.out hsg8, Nat.lt_of_lt_of_le Hg5.out.size hsg8, Nat.lt_of_lt_of_le Hg6.out.size hsg8, Nat.lt_of_lt_of_le Hg7.out.size hsg8⟩)
 replace HC := Aside0.mk (HC.out.on hHeld.1)
 replace HT := Aside0.mk (HT.out.on hHeld.1)
 replace HR := Aside0.mk (HR.out.on hHeld.1)
 replace Hg5 := Aside0.mk (Hg5.out.on hHeld.1)
 replace Hg6 := Aside0.mk (Hg6.out.on hHeld.1)
 replace Hg7 := Aside0.mk (Hg7.out.on hHeld.1)
 replace HF := Aside0.mk (HF.out.on hHeld.1)
 replace HB := Aside0.mk (bl_on HB.out hHeld.1 HB.out.size)
 replace HS := Aside0.mk (Nat.le_trans HS.out hHeld.1.size)
 replace HC := Aside0.mk (HC.out.but hT_q14 (by have := HXg5.out; have := HXg6.out; have := HXg7.out; have := HXg8.out; have := HXg5g6.out; have := HG.out; omega))
 replace HT := Aside0.mk (HT.out.but hT_q14 (by have := HXg5.out; have := HXg6.out; have := HXg7.out; have := HXg8.out; have := HXg5g6.out; have := HG.out; omega))
 replace HR := Aside0.mk (HR.out.but hT_q14 (by have := HXg5.out; have := HXg6.out; have := HXg7.out; have := HXg8.out; have := HXg5g6.out; have := HG.out; omega))
 replace Hg5 := Aside0.mk (Hg5.out.but hT_q14 (by have := HXg5.out; have := HXg6.out; have := HXg7.out; have := HXg8.out; have := HXg5g6.out; have := HG.out; omega))
 replace Hg6 := Aside0.mk (Hg6.out.but hT_q14 (by have := HXg5.out; have := HXg6.out; have := HXg7.out; have := HXg8.out; have := HXg5g6.out; have := HG.out; omega))
 replace Hg7 := Aside0.mk (Hg7.out.but hT_q14 (by have := HXg5.out; have := HXg6.out; have := HXg7.out; have := HXg8.out; have := HXg5g6.out; have := HG.out; omega))
 replace HF := Aside0.mk (HF.out.but hT_q14 (by have := HXg5.out; have := HXg6.out; have := HXg7.out; have := HXg8.out; have := HXg5g6.out; have := HG.out; omega))
 have Hg8 := Aside0.mk hA_q14
 replace HB := Aside0.mk (bl_but HB.out hT_q14 HB.out.size (by have := HXg5.out; have := HXg6.out; have := HXg7.out; have := HXg8.out; have := HXg5g6.out; have := HG.out; omega))
 replace HS := Aside0.mk (Nat.le_trans HS.out hT_q14.size)
 clear hA_q14 hT_q14 hzg8 hsg8 hHeld
 go_wp2
 refine start_ (n := 11) (S := fun w' => Below q14.heap.size q14 w' ∧ w'.cell? ⟨w.heap.size, 2, none⟩ = some (mthV 52 gf)) (ds := [10]) (bs 11 0) (by kernel_rfl) rfl rfl ⟨(Below.refl _ _).drew, HC.out.c2⟩ (fun hHeld => ?_)
 refine pu_ 0 43 (bs 11 1) ?_ ?_ ?_ ?_ ?_
 rotate_left
 ·intro w'
  go_simp
  with_reducible rfl
 rotate_left
 ·simp only [aS, i64_w, i32_w]
  rfl
 refine tk_ 1 44 (bs 11 3) ?_ ?_ hHeld ?_ ?_ ?_
 rotate_left
 ·rintro w' ⟨s0, s1⟩
  go_simp
  with_reducible rfl
 rotate_left
 ·simp only [aS, i64_w, i32_w]
  rfl
 refine take_ (i := 2) (N := some 45) (a' := ?_) (bs 11 7) rfl rfl (by kernel_rfl) (fun _ _ _ h => h) (yieldsIf_load_mid (by rfl) 58 (.tmp 2) rfl w.heap.size 0 rfl ((cvl gf)) _ (fun w' hS => (HC.out.on hS.1).range) rfl rfl (rfl)) hHeld ?_ ?_
 rotate_left
 ·simp only [aS, i64_w, i32_w]
  rfl
 refine take_ (i := 3) (N := some 46) (a' := ?_) (bs 11 15) rfl rfl (by kernel_rfl) (fun _ _ _ h => h) (yields_num (g := g8) (o := 0) (n := t7) (by rfl) (.tmp 8) rfl rfl (fun w' hS => (Hg8.out.on hS.1).range)) hHeld ?_ ?_
 rotate_left
 ·simp only [aS, i64_w, i32_w]
  rfl
 refine take_ (i := 5) (N := some 48) (a' := ?_) (bs 11 47) rfl rfl (by kernel_rfl) (fun _ _ _ h => h) (yieldsIf_load_mid (by rfl) 58 (.tmp 2) rfl w.heap.size 0 rfl ((cvl gf)) _ (fun w' hS => (HC.out.on hS.1).range) rfl rfl (rfl)) hHeld ?_ ?_
 rotate_left
 ·simp only [aS, i64_w, i32_w]
  rfl
 refine take_ (i := 6) (N := some 49) (a' := ?_) (bs 11 111) rfl rfl (by kernel_rfl) (fun _ _ _ h => h) (yields_num (g := g7) (o := 0) (n := t3) (by rfl) (.tmp 7) rfl rfl (fun w' hS => (Hg7.out.on hS.1).range)) hHeld ?_ ?_
 rotate_left
 ·simp only [aS, i64_w, i32_w]
  rfl
 refine join_ (σ := Nat) 1 (bs 11 1023) (fun s => [(9, .pointer (some ⟨s, 0, none⟩)), (47, numV t8), (50, numV t9), (51, numV t10)]) (fun s w' => Below q14.heap.size q14 w' ∧ NAt w' s 0 ∧ q14.heap.size ≤ s) ?_ ?_
 rotate_left
 ·intro hCont
  refine tw_ 4 9 (some 47) (some 9) (bs 11 127) (bs 11 623) rfl rfl (fun K hK => ?_) (fun K hK => ?_)
  ·skip
   refine gs_ Try.func55 #[cvV gf, numV t7] rfl ?_
   with_reducible refine (K8.out _ (HF.out.on hHeld.1)).mono ?_
   rintro e u15 ⟨rfl, hb_u15⟩
   refine ⟨_, rfl, ?_⟩
   have hq_u15 := bl_on hHeld.1 hb_u15 hHeld.1.size
   refine hK.out _ _ ⟨hq_u15, (HC.out.on (hq_u15)).c2⟩ (fun hHeld => ?_)
   clear hK K
   refine nm_ (some 47) ?_
   refine tw_ 7 9 (some 50) (some 9) (bs 11 255) (bs 11 639) rfl rfl (fun K hK => ?_) (fun K hK => ?_)
   ·skip
    refine gs_ Try.func56 #[cvV gf, numV t3, .int .u64 ((8 : Nat) : Int)] rfl ?_
    with_reducible refine (K9.out _ (HF.out.on hHeld.1)).mono ?_
    rintro e u16 ⟨rfl, hb_u16⟩
    refine ⟨_, rfl, ?_⟩
    have hq_u16 := bl_on hHeld.1 hb_u16 hHeld.1.size
    refine hK.out _ _ ⟨hq_u16, (HC.out.on (hq_u16)).c2⟩ (fun hHeld => ?_)
    clear hK K
    refine nm_ (some 50) ?_
    refine tw_ 8 9 (some 51) (some 9) (bs 11 511) (bs 11 767) rfl rfl (fun K hK => ?_) (fun K hK => ?_)
    ·skip
     refine gF_ Try.func52 gf (numV t8) (numV t9) rfl ?_
     with_reducible refine (K10.out _ (HF.out.on hHeld.1)).mono ?_
     rintro e u17 ⟨rfl, hb_u17⟩
     refine ⟨_, rfl, ?_⟩
     have hq_u17 := bl_on hHeld.1 hb_u17 hHeld.1.size
     refine hK.out _ _ ⟨hq_u17, (HC.out.on (hq_u17)).c2⟩ (fun hHeld => ?_)
     clear hK K
     refine nm_ (some 51) ?_
     refine on1_ 9 (some 9) (bs 11 1023) rfl fun K hK => ?_
     refine value_ (w1 := ?_) (v := ?_) (by rfl) rfl ?_ ?_
     rotate_left 2
     ·go_simp
      constructor
      ·rfl
      ·rfl
     have hzg9 : NAt (World.alloc u17 (.cells (nw 0).toArray 24)) (u17.heap.size) 0 := by have h_ := Row.new u17 24 (nw 0); first | exact h_ | (simp only [alloc_sz] at h_; exact h_) | omega
     have hsg9 : q14.heap.size ≤ u17.heap.size := by have h_ := hHeld.1.size; first | exact h_ | (simp only [alloc_sz] at h_; exact h_) | omega
     refine hK.out _ _ ⟨below_alloc hHeld.1 _, (HC.out.on (below_alloc hHeld.1 _)).c2⟩ (fun hHeld => ?_)
     clear hK K
     refine nm_ (some 9) ?_
     exact norm_ (by simp only [putAll, aS]) (hCont (u17.heap.size) _ ⟨hHeld.1, hzg9, hsg9⟩)
    ·skip
     refine value_ (w1 := ?_) (v := ?_) (by rfl) rfl ?_ ?_
     rotate_left 2
     ·go_simp
      constructor
      ·rfl
      ·rfl
     have hzg9 : NAt (World.alloc u16 (.cells (nw 0).toArray 24)) (u16.heap.size) 0 := by have h_ := Row.new u16 24 (nw 0); first | exact h_ | (simp only [alloc_sz] at h_; exact h_) | omega
     have hsg9 : q14.heap.size ≤ u16.heap.size := by have h_ := hHeld.1.size; first | exact h_ | (simp only [alloc_sz] at h_; exact h_) | omega
     refine hK.out _ _ ⟨below_alloc hHeld.1 _, (HC.out.on (below_alloc hHeld.1 _)).c2⟩ (fun hHeld => ?_)
     clear hK K
     refine nm_ (some 9) ?_
     refine on1_ 8 (some 51) (bs 11 1023) rfl fun K hK => ?_
     refine gF_ Try.func52 gf (numV t8) (numV t9) rfl ?_
     with_reducible refine (K10.out _ (HF.out.on hHeld.1)).mono ?_
     rintro e u17 ⟨rfl, hb_u17⟩
     refine ⟨_, rfl, ?_⟩
     have hq_u17 := bl_on hHeld.1 hb_u17 hHeld.1.size
     replace hzg9 := hzg9.on hb_u17
     refine hK.out _ _ ⟨hq_u17, (HC.out.on (hq_u17)).c2⟩ (fun hHeld => ?_)
     clear hK K
     refine nm_ (some 51) ?_
     exact norm_ (by simp only [putAll, aS]) (hCont (u16.heap.size) _ ⟨hHeld.1, hzg9, hsg9⟩)
   ·skip
    refine value_ (w1 := ?_) (v := ?_) (by rfl) rfl ?_ ?_
    rotate_left 2
    ·go_simp
     constructor
     ·rfl
     ·rfl
    have hzg9 : NAt (World.alloc u15 (.cells (nw 0).toArray 24)) (u15.heap.size) 0 := by have h_ := Row.new u15 24 (nw 0); first | exact h_ | (simp only [alloc_sz] at h_; exact h_) | omega
    have hsg9 : q14.heap.size ≤ u15.heap.size := by have h_ := hHeld.1.size; first | exact h_ | (simp only [alloc_sz] at h_; exact h_) | omega
    refine hK.out _ _ ⟨below_alloc hHeld.1 _, (HC.out.on (below_alloc hHeld.1 _)).c2⟩ (fun hHeld => ?_)
    clear hK K
    refine nm_ (some 9) ?_
    refine on1_ 7 (some 50) (bs 11 767) rfl fun K hK => ?_
    refine gs_ Try.func56 #[cvV gf, numV t3, .int .u64 ((8 : Nat) : Int)] rfl ?_
    with_reducible refine (K9.out _ (HF.out.on hHeld.1)).mono ?_
    rintro e u16 ⟨rfl, hb_u16⟩
    refine ⟨_, rfl, ?_⟩
    have hq_u16 := bl_on hHeld.1 hb_u16 hHeld.1.size
    replace hzg9 := hzg9.on hb_u16
    refine hK.out _ _ ⟨hq_u16, (HC.out.on (hq_u16)).c2⟩ (fun hHeld => ?_)
    clear hK K
    refine nm_ (some 50) ?_
    refine on1_ 8 (some 51) (bs 11 1023) rfl fun K hK => ?_
    refine gF_ Try.func52 gf (numV t8) (numV t9) rfl ?_
    with_reducible refine (K10.out _ (HF.out.on hHeld.1)).mono ?_
    rintro e u17 ⟨rfl, hb_u17⟩
    refine ⟨_, rfl, ?_⟩
    have hq_u17 := bl_on hHeld.1 hb_u17 hHeld.1.size
    replace hzg9 := hzg9.on hb_u17
    refine hK.out _ _ ⟨hq_u17, (HC.out.on (hq_u17)).c2⟩ (fun hHeld => ?_)
    clear hK K
    refine nm_ (some 51) ?_
    exact norm_ (by simp only [putAll, aS]) (hCont (u15.heap.size) _ ⟨hHeld.1, hzg9, hsg9⟩)
  ·skip
   refine value_ (w1 := ?_) (v := ?_) (by rfl) rfl ?_ ?_
   rotate_left 2
   ·go_simp
    constructor
    ·rfl
    ·rfl
   have hzg9 : NAt (World.alloc (World.drew q14) (.cells (nw 0).toArray 24)) (q14.heap.size) 0 := by have h_ := Row.new (World.drew q14) 24 (nw 0); first | exact h_ | (simp only [alloc_sz] at h_; exact h_) | omega
   have hsg9 : q14.heap.size ≤ q14.heap.size := by have h_ := hHeld.1.size; first | exact h_ | (simp only [alloc_sz] at h_; exact h_) | omega
   refine hK.out _ _ ⟨below_alloc hHeld.1 _, (HC.out.on (below_alloc hHeld.1 _)).c2⟩ (fun hHeld => ?_)
   clear hK K
   refine nm_ (some 9) ?_
   refine on1_ 4 (some 47) (bs 11 639) rfl fun K hK => ?_
   refine gs_ Try.func55 #[cvV gf, numV t7] rfl ?_
   with_reducible refine (K8.out _ (HF.out.on hHeld.1)).mono ?_
   rintro e u15 ⟨rfl, hb_u15⟩
   refine ⟨_, rfl, ?_⟩
   have hq_u15 := bl_on hHeld.1 hb_u15 hHeld.1.size
   replace hzg9 := hzg9.on hb_u15
   refine hK.out _ _ ⟨hq_u15, (HC.out.on (hq_u15)).c2⟩ (fun hHeld => ?_)
   clear hK K
   refine nm_ (some 47) ?_
   refine on1_ 7 (some 50) (bs 11 767) rfl fun K hK => ?_
   refine gs_ Try.func56 #[cvV gf, numV t3, .int .u64 ((8 : Nat) : Int)] rfl ?_
   with_reducible refine (K9.out _ (HF.out.on hHeld.1)).mono ?_
   rintro e u16 ⟨rfl, hb_u16⟩
   refine ⟨_, rfl, ?_⟩
   have hq_u16 := bl_on hHeld.1 hb_u16 hHeld.1.size
   replace hzg9 := hzg9.on hb_u16
   refine hK.out _ _ ⟨hq_u16, (HC.out.on (hq_u16)).c2⟩ (fun hHeld => ?_)
   clear hK K
   refine nm_ (some 50) ?_
   refine on1_ 8 (some 51) (bs 11 1023) rfl fun K hK => ?_
   refine gF_ Try.func52 gf (numV t8) (numV t9) rfl ?_
   with_reducible refine (K10.out _ (HF.out.on hHeld.1)).mono ?_
   rintro e u17 ⟨rfl, hb_u17⟩
   refine ⟨_, rfl, ?_⟩
   have hq_u17 := bl_on hHeld.1 hb_u17 hHeld.1.size
   replace hzg9 := hzg9.on hb_u17
   refine hK.out _ _ ⟨hq_u17, (HC.out.on (hq_u17)).c2⟩ (fun hHeld => ?_)
   clear hK K
   refine nm_ (some 51) ?_
   exact norm_ (by simp only [putAll, aS]) (hCont (q14.heap.size) _ ⟨hHeld.1, hzg9, hsg9⟩)
 rintro g9 v18 ⟨hHeld0, hzg9, hsg9⟩
 have hHeld : Below q14.heap.size q14 v18 ∧ v18.cell? ⟨w.heap.size, 2, none⟩ = some (mthV 52 gf) := ⟨hHeld0, (HC.out.on (hHeld0)).c2⟩
 clear hHeld0
 refine norm_ (a' := ?_) ?_ ?_
 rotate_left
 ·simp only [putAll, aS]
  rfl
 refine last_ (i := 10) (N := none) (bs 11 2047) rfl rfl (by kernel_rfl) (by decide) (fun K hK => ?_)
 refine skip_num (hzg9) (by rfl) rfl (.tmp 9) (.tmp 51) rfl rfl rfl ?_
 intro q19 hA_q19 hT_q19
 refine hK.out _ _ ?_
 clear hK K
 refine done_ (by kernel_rfl) ?_
 have HXg9 : Aside0 (w.heap.size + 1 + 1 + 1 ≤ g9 ∧ g5 < g9 ∧ g6 < g9 ∧ g7 < g9 ∧ g8 < g9) := Aside0.mk (⟨Nat.le_trans HS.out hsg9, Nat.lt_of_lt_of_le Hg5.out.size hsg9, Nat.lt_of_lt_of_le Hg6.out.size hsg9, Nat.lt_of_lt_of_le Hg7.out.size hsg9, Nat.lt_of_lt_of_le Hg8.out.size hsg9⟩)
 replace HC := Aside0.mk (HC.out.on hHeld.1)
 replace HT := Aside0.mk (HT.out.on hHeld.1)
 replace HR := Aside0.mk (HR.out.on hHeld.1)
 replace Hg5 := Aside0.mk (Hg5.out.on hHeld.1)
 replace Hg6 := Aside0.mk (Hg6.out.on hHeld.1)
 replace Hg7 := Aside0.mk (Hg7.out.on hHeld.1)
 replace Hg8 := Aside0.mk (Hg8.out.on hHeld.1)
 replace HF := Aside0.mk (HF.out.on hHeld.1)
 replace HB := Aside0.mk (bl_on HB.out hHeld.1 HB.out.size)
 replace HS := Aside0.mk (Nat.le_trans HS.out hHeld.1.size)
 replace HC := Aside0.mk (HC.out.but hT_q19 (by have := HXg5.out; have := HXg6.out; have := HXg7.out; have := HXg8.out; have := HXg9.out; have := HXg5g6.out; have := HG.out; omega))
 replace HT := Aside0.mk (HT.out.but hT_q19 (by have := HXg5.out; have := HXg6.out; have := HXg7.out; have := HXg8.out; have := HXg9.out; have := HXg5g6.out; have := HG.out; omega))
 replace HR := Aside0.mk (HR.out.but hT_q19 (by have := HXg5.out; have := HXg6.out; have := HXg7.out; have := HXg8.out; have := HXg9.out; have := HXg5g6.out; have := HG.out; omega))
 replace Hg5 := Aside0.mk (Hg5.out.but hT_q19 (by have := HXg5.out; have := HXg6.out; have := HXg7.out; have := HXg8.out; have := HXg9.out; have := HXg5g6.out; have := HG.out; omega))
 replace Hg6 := Aside0.mk (Hg6.out.but hT_q19 (by have := HXg5.out; have := HXg6.out; have := HXg7.out; have := HXg8.out; have := HXg9.out; have := HXg5g6.out; have := HG.out; omega))
 replace Hg7 := Aside0.mk (Hg7.out.but hT_q19 (by have := HXg5.out; have := HXg6.out; have := HXg7.out; have := HXg8.out; have := HXg9.out; have := HXg5g6.out; have := HG.out; omega))
 replace Hg8 := Aside0.mk (Hg8.out.but hT_q19 (by have := HXg5.out; have := HXg6.out; have := HXg7.out; have := HXg8.out; have := HXg9.out; have := HXg5g6.out; have := HG.out; omega))
 replace HF := Aside0.mk (HF.out.but hT_q19 (by have := HXg5.out; have := HXg6.out; have := HXg7.out; have := HXg8.out; have := HXg9.out; have := HXg5g6.out; have := HG.out; omega))
 have Hg9 := Aside0.mk hA_q19
 replace HB := Aside0.mk (bl_but HB.out hT_q19 HB.out.size (by have := HXg5.out; have := HXg6.out; have := HXg7.out; have := HXg8.out; have := HXg9.out; have := HXg5g6.out; have := HG.out; omega))
 replace HS := Aside0.mk (Nat.le_trans HS.out hT_q19.size)
 clear hA_q19 hT_q19 hzg9 hsg9 hHeld
 go_wp2
 refine start_ (n := 19) (S := fun w' => Below q19.heap.size q19 w' ∧ w'.cell? ⟨w.heap.size, 2, none⟩ = some (mthV 52 gf) ∧ w'.cell? ⟨w.heap.size, 1, none⟩ = some (mthV 51 gf)) (ds := [18]) (bs 19 0) (by kernel_rfl) rfl rfl ⟨(Below.refl _ _).drew, HC.out.c2, HC.out.c1⟩ (fun hHeld => ?_)
 refine pu_ 0 52 (bs 19 1) ?_ ?_ ?_ ?_ ?_
 rotate_left
 ·intro w'
  go_simp
  with_reducible rfl
 rotate_left
 ·simp only [aS, i64_w, i32_w]
  rfl
 refine pu_ 2 54 (bs 19 5) ?_ ?_ ?_ ?_ ?_
 rotate_left
 ·intro w'
  go_simp
  with_reducible rfl
 rotate_left
 ·simp only [aS, i64_w, i32_w]
  rfl
 refine pu_ 5 57 (bs 19 37) ?_ ?_ ?_ ?_ ?_
 rotate_left
 ·intro w'
  go_simp
  with_reducible rfl
 rotate_left
 ·simp only [aS, i64_w, i32_w]
  rfl
 refine pu_ 7 59 (bs 19 165) ?_ ?_ ?_ ?_ ?_
 rotate_left
 ·intro w'
  go_simp
  with_reducible rfl
 rotate_left
 ·simp only [aS, i64_w, i32_w]
  rfl
 refine pu_ 9 61 (bs 19 677) ?_ ?_ ?_ ?_ ?_
 rotate_left
 ·intro w'
  go_simp
  with_reducible rfl
 rotate_left
 ·simp only [aS, i64_w, i32_w]
  rfl
 refine tk_ 1 53 (bs 19 679) ?_ ?_ hHeld ?_ ?_ ?_
 rotate_left
 ·rintro w' ⟨s0, s1, s2⟩
  go_simp
  with_reducible rfl
 rotate_left
 ·simp only [aS, i64_w, i32_w]
  rfl
 refine tk_ 3 55 (bs 19 687) ?_ ?_ hHeld ?_ ?_ ?_
 rotate_left
 ·rintro w' ⟨s0, s1, s2⟩
  go_simp
  with_reducible rfl
 rotate_left
 ·simp only [aS, i64_w, i32_w]
  rfl
 refine take_ (i := 4) (N := some 56) (a' := ?_) (bs 19 703) rfl rfl (by kernel_rfl) (fun _ _ _ h => h) (yieldsIf_load_mid (by rfl) 58 (.tmp 2) rfl w.heap.size 0 rfl ((cvl gf)) _ (fun w' hS => (HC.out.on hS.1).range) rfl rfl (rfl)) hHeld ?_ ?_
 rotate_left
 ·simp only [aS, i64_w, i32_w]
  rfl
 refine tk_ 6 58 (bs 19 767) ?_ ?_ hHeld ?_ ?_ ?_
 rotate_left
 ·rintro w' ⟨s0, s1, s2⟩
  go_simp
  with_reducible rfl
 rotate_left
 ·simp only [aS, i64_w, i32_w]
  rfl
 refine take_ (i := 8) (N := some 60) (a' := ?_) (bs 19 1023) rfl rfl (by kernel_rfl) (fun _ _ _ h => h) (yields_num (g := w.heap.size + 1) (o := 4) (n := y) (by rfl) (.tmp 59) rfl rfl (fun w' hS => (HT.out.on hS.1).ry)) hHeld ?_ ?_
 rotate_left
 ·simp only [aS, i64_w, i32_w]
  rfl
 refine take_ (i := 10) (N := some 62) (a' := ?_) (bs 19 2047) rfl rfl (by kernel_rfl) (fun _ _ _ h => h) (yields_num (g := w.heap.size + 1) (o := 8) (n := z) (by rfl) (.tmp 61) rfl rfl (fun w' hS => (HT.out.on hS.1).rz)) hHeld ?_ ?_
 rotate_left
 ·simp only [aS, i64_w, i32_w]
  rfl
 refine take_ (i := 13) (N := some 65) (a' := ?_) (bs 19 10239) rfl rfl (by kernel_rfl) (fun _ _ _ h => h) (yields_num (g := g6) (o := 0) (n := t2) (by rfl) (.tmp 6) rfl rfl (fun w' hS => (Hg6.out.on hS.1).range)) hHeld ?_ ?_
 rotate_left
 ·simp only [aS, i64_w, i32_w]
  rfl
 refine take_ (i := 15) (N := some 67) (a' := ?_) (bs 19 43007) rfl rfl (by kernel_rfl) (fun _ _ _ h => h) (yields_num (g := g5) (o := 0) (n := t1) (by rfl) (.tmp 5) rfl rfl (fun w' hS => (Hg5.out.on hS.1).range)) hHeld ?_ ?_
 rotate_left
 ·simp only [aS, i64_w, i32_w]
  rfl
 refine join_ (σ := Nat) 1 (bs 19 262143) (fun s => [(10, .pointer (some ⟨s, 0, none⟩)), (63, numV t11), (64, numV t12), (66, numV t13), (68, numV t14)]) (fun s w' => Below q19.heap.size q19 w' ∧ NAt w' s 0 ∧ q19.heap.size ≤ s) ?_ ?_
 rotate_left
 ·intro hCont
  refine tw_ 11 17 (some 63) (some 10) (bs 19 45055) (bs 19 174079) rfl rfl (fun K hK => ?_) (fun K hK => ?_)
  ·skip
   refine gF_ Try.func51 gf (numV y) (numV z) rfl ?_
   with_reducible refine (K11.out _ (HF.out.on hHeld.1)).mono ?_
   rintro e u20 ⟨rfl, hb_u20⟩
   refine ⟨_, rfl, ?_⟩
   have hq_u20 := bl_on hHeld.1 hb_u20 hHeld.1.size
   refine hK.out _ _ ⟨hq_u20, (HC.out.on (hq_u20)).c2, (HC.out.on (hq_u20)).c1⟩ (fun hHeld => ?_)
   clear hK K
   refine nm_ (some 63) ?_
   refine tw_ 12 17 (some 64) (some 10) (bs 19 49151) (bs 19 176127) rfl rfl (fun K hK => ?_) (fun K hK => ?_)
   ·skip
    refine gs_ Try.func55 #[cvV gf, numV t11] rfl ?_
    with_reducible refine (K12.out _ (HF.out.on hHeld.1)).mono ?_
    rintro e u21 ⟨rfl, hb_u21⟩
    refine ⟨_, rfl, ?_⟩
    have hq_u21 := bl_on hHeld.1 hb_u21 hHeld.1.size
    refine hK.out _ _ ⟨hq_u21, (HC.out.on (hq_u21)).c2, (HC.out.on (hq_u21)).c1⟩ (fun hHeld => ?_)
    clear hK K
    refine nm_ (some 64) ?_
    refine tw_ 14 17 (some 66) (some 10) (bs 19 65535) (bs 19 180223) rfl rfl (fun K hK => ?_) (fun K hK => ?_)
    ·skip
     refine gF_ Try.func52 gf (numV t12) (numV t2) rfl ?_
     with_reducible refine (K13.out _ (HF.out.on hHeld.1)).mono ?_
     rintro e u22 ⟨rfl, hb_u22⟩
     refine ⟨_, rfl, ?_⟩
     have hq_u22 := bl_on hHeld.1 hb_u22 hHeld.1.size
     refine hK.out _ _ ⟨hq_u22, (HC.out.on (hq_u22)).c2, (HC.out.on (hq_u22)).c1⟩ (fun hHeld => ?_)
     clear hK K
     refine nm_ (some 66) ?_
     refine tw_ 16 17 (some 68) (some 10) (bs 19 131071) (bs 19 196607) rfl rfl (fun K hK => ?_) (fun K hK => ?_)
     ·skip
      refine gF_ Try.func52 gf (numV t13) (numV t1) rfl ?_
      with_reducible refine (K14.out _ (HF.out.on hHeld.1)).mono ?_
      rintro e u23 ⟨rfl, hb_u23⟩
      refine ⟨_, rfl, ?_⟩
      have hq_u23 := bl_on hHeld.1 hb_u23 hHeld.1.size
      refine hK.out _ _ ⟨hq_u23, (HC.out.on (hq_u23)).c2, (HC.out.on (hq_u23)).c1⟩ (fun hHeld => ?_)
      clear hK K
      refine nm_ (some 68) ?_
      refine on1_ 17 (some 10) (bs 19 262143) rfl fun K hK => ?_
      refine value_ (w1 := ?_) (v := ?_) (by rfl) rfl ?_ ?_
      rotate_left 2
      ·go_simp
       constructor
       ·rfl
       ·rfl
      have hzg10 : NAt (World.alloc u23 (.cells (nw 0).toArray 24)) (u23.heap.size) 0 := by have h_ := Row.new u23 24 (nw 0); first | exact h_ | (simp only [alloc_sz] at h_; exact h_) | omega
      have hsg10 : q19.heap.size ≤ u23.heap.size := by have h_ := hHeld.1.size; first | exact h_ | (simp only [alloc_sz] at h_; exact h_) | omega
      refine hK.out _ _ ⟨below_alloc hHeld.1 _, (HC.out.on (below_alloc hHeld.1 _)).c2, (HC.out.on (below_alloc hHeld.1 _)).c1⟩ (fun hHeld => ?_)
      clear hK K
      refine nm_ (some 10) ?_
      exact norm_ (by simp only [putAll, aS]) (hCont (u23.heap.size) _ ⟨hHeld.1, hzg10, hsg10⟩)
     ·skip
      refine value_ (w1 := ?_) (v := ?_) (by rfl) rfl ?_ ?_
      rotate_left 2
      ·go_simp
       constructor
       ·rfl
       ·rfl
      have hzg10 : NAt (World.alloc u22 (.cells (nw 0).toArray 24)) (u22.heap.size) 0 := by have h_ := Row.new u22 24 (nw 0); first | exact h_ | (simp only [alloc_sz] at h_; exact h_) | omega
      have hsg10 : q19.heap.size ≤ u22.heap.size := by have h_ := hHeld.1.size; first | exact h_ | (simp only [alloc_sz] at h_; exact h_) | omega
      refine hK.out _ _ ⟨below_alloc hHeld.1 _, (HC.out.on (below_alloc hHeld.1 _)).c2, (HC.out.on (below_alloc hHeld.1 _)).c1⟩ (fun hHeld => ?_)
      clear hK K
      refine nm_ (some 10) ?_
      refine on1_ 16 (some 68) (bs 19 262143) rfl fun K hK => ?_
      refine gF_ Try.func52 gf (numV t13) (numV t1) rfl ?_
      with_reducible refine (K14.out _ (HF.out.on hHeld.1)).mono ?_
      rintro e u23 ⟨rfl, hb_u23⟩
      refine ⟨_, rfl, ?_⟩
      have hq_u23 := bl_on hHeld.1 hb_u23 hHeld.1.size
      replace hzg10 := hzg10.on hb_u23
      refine hK.out _ _ ⟨hq_u23, (HC.out.on (hq_u23)).c2, (HC.out.on (hq_u23)).c1⟩ (fun hHeld => ?_)
      clear hK K
      refine nm_ (some 68) ?_
      exact norm_ (by simp only [putAll, aS]) (hCont (u22.heap.size) _ ⟨hHeld.1, hzg10, hsg10⟩)
    ·skip
     refine value_ (w1 := ?_) (v := ?_) (by rfl) rfl ?_ ?_
     rotate_left 2
     ·go_simp
      constructor
      ·rfl
      ·rfl
     have hzg10 : NAt (World.alloc u21 (.cells (nw 0).toArray 24)) (u21.heap.size) 0 := by have h_ := Row.new u21 24 (nw 0); first | exact h_ | (simp only [alloc_sz] at h_; exact h_) | omega
     have hsg10 : q19.heap.size ≤ u21.heap.size := by have h_ := hHeld.1.size; first | exact h_ | (simp only [alloc_sz] at h_; exact h_) | omega
     refine hK.out _ _ ⟨below_alloc hHeld.1 _, (HC.out.on (below_alloc hHeld.1 _)).c2, (HC.out.on (below_alloc hHeld.1 _)).c1⟩ (fun hHeld => ?_)
     clear hK K
     refine nm_ (some 10) ?_
     refine on1_ 14 (some 66) (bs 19 196607) rfl fun K hK => ?_
     refine gF_ Try.func52 gf (numV t12) (numV t2) rfl ?_
     with_reducible refine (K13.out _ (HF.out.on hHeld.1)).mono ?_
     rintro e u22 ⟨rfl, hb_u22⟩
     refine ⟨_, rfl, ?_⟩
     have hq_u22 := bl_on hHeld.1 hb_u22 hHeld.1.size
     replace hzg10 := hzg10.on hb_u22
     refine hK.out _ _ ⟨hq_u22, (HC.out.on (hq_u22)).c2, (HC.out.on (hq_u22)).c1⟩ (fun hHeld => ?_)
     clear hK K
     refine nm_ (some 66) ?_
     refine on1_ 16 (some 68) (bs 19 262143) rfl fun K hK => ?_
     refine gF_ Try.func52 gf (numV t13) (numV t1) rfl ?_
     with_reducible refine (K14.out _ (HF.out.on hHeld.1)).mono ?_
     rintro e u23 ⟨rfl, hb_u23⟩
     refine ⟨_, rfl, ?_⟩
     have hq_u23 := bl_on hHeld.1 hb_u23 hHeld.1.size
     replace hzg10 := hzg10.on hb_u23
     refine hK.out _ _ ⟨hq_u23, (HC.out.on (hq_u23)).c2, (HC.out.on (hq_u23)).c1⟩ (fun hHeld => ?_)
     clear hK K
     refine nm_ (some 68) ?_
     exact norm_ (by simp only [putAll, aS]) (hCont (u21.heap.size) _ ⟨hHeld.1, hzg10, hsg10⟩)
   ·skip
    refine value_ (w1 := ?_) (v := ?_) (by rfl) rfl ?_ ?_
    rotate_left 2
    ·go_simp
     constructor
     ·rfl
     ·rfl
    have hzg10 : NAt (World.alloc u20 (.cells (nw 0).toArray 24)) (u20.heap.size) 0 := by have h_ := Row.new u20 24 (nw 0); first | exact h_ | (simp only [alloc_sz] at h_; exact h_) | omega
    have hsg10 : q19.heap.size ≤ u20.heap.size := by have h_ := hHeld.1.size; first | exact h_ | (simp only [alloc_sz] at h_; exact h_) | omega
    refine hK.out _ _ ⟨below_alloc hHeld.1 _, (HC.out.on (below_alloc hHeld.1 _)).c2, (HC.out.on (below_alloc hHeld.1 _)).c1⟩ (fun hHeld => ?_)
    clear hK K
    refine nm_ (some 10) ?_
    refine on1_ 12 (some 64) (bs 19 180223) rfl fun K hK => ?_
    refine gs_ Try.func55 #[cvV gf, numV t11] rfl ?_
    with_reducible refine (K12.out _ (HF.out.on hHeld.1)).mono ?_
    rintro e u21 ⟨rfl, hb_u21⟩
    refine ⟨_, rfl, ?_⟩
    have hq_u21 := bl_on hHeld.1 hb_u21 hHeld.1.size
    replace hzg10 := hzg10.on hb_u21
    refine hK.out _ _ ⟨hq_u21, (HC.out.on (hq_u21)).c2, (HC.out.on (hq_u21)).c1⟩ (fun hHeld => ?_)
    clear hK K
    refine nm_ (some 64) ?_
    refine on1_ 14 (some 66) (bs 19 196607) rfl fun K hK => ?_
    refine gF_ Try.func52 gf (numV t12) (numV t2) rfl ?_
    with_reducible refine (K13.out _ (HF.out.on hHeld.1)).mono ?_
    rintro e u22 ⟨rfl, hb_u22⟩
    refine ⟨_, rfl, ?_⟩
    have hq_u22 := bl_on hHeld.1 hb_u22 hHeld.1.size
    replace hzg10 := hzg10.on hb_u22
    refine hK.out _ _ ⟨hq_u22, (HC.out.on (hq_u22)).c2, (HC.out.on (hq_u22)).c1⟩ (fun hHeld => ?_)
    clear hK K
    refine nm_ (some 66) ?_
    refine on1_ 16 (some 68) (bs 19 262143) rfl fun K hK => ?_
    refine gF_ Try.func52 gf (numV t13) (numV t1) rfl ?_
    with_reducible refine (K14.out _ (HF.out.on hHeld.1)).mono ?_
    rintro e u23 ⟨rfl, hb_u23⟩
    refine ⟨_, rfl, ?_⟩
    have hq_u23 := bl_on hHeld.1 hb_u23 hHeld.1.size
    replace hzg10 := hzg10.on hb_u23
    refine hK.out _ _ ⟨hq_u23, (HC.out.on (hq_u23)).c2, (HC.out.on (hq_u23)).c1⟩ (fun hHeld => ?_)
    clear hK K
    refine nm_ (some 68) ?_
    exact norm_ (by simp only [putAll, aS]) (hCont (u20.heap.size) _ ⟨hHeld.1, hzg10, hsg10⟩)
  ·skip
   refine value_ (w1 := ?_) (v := ?_) (by rfl) rfl ?_ ?_
   rotate_left 2
   ·go_simp
    constructor
    ·rfl
    ·rfl
   have hzg10 : NAt (World.alloc (World.drew q19) (.cells (nw 0).toArray 24)) (q19.heap.size) 0 := by have h_ := Row.new (World.drew q19) 24 (nw 0); first | exact h_ | (simp only [alloc_sz] at h_; exact h_) | omega
   have hsg10 : q19.heap.size ≤ q19.heap.size := by have h_ := hHeld.1.size; first | exact h_ | (simp only [alloc_sz] at h_; exact h_) | omega
   refine hK.out _ _ ⟨below_alloc hHeld.1 _, (HC.out.on (below_alloc hHeld.1 _)).c2, (HC.out.on (below_alloc hHeld.1 _)).c1⟩ (fun hHeld => ?_)
   clear hK K
   refine nm_ (some 10) ?_
   refine on1_ 11 (some 63) (bs 19 176127) rfl fun K hK => ?_
   refine gF_ Try.func51 gf (numV y) (numV z) rfl ?_
   with_reducible refine (K11.out _ (HF.out.on hHeld.1)).mono ?_
   rintro e u20 ⟨rfl, hb_u20⟩
   refine ⟨_, rfl, ?_⟩
   have hq_u20 := bl_on hHeld.1 hb_u20 hHeld.1.size
   replace hzg10 := hzg10.on hb_u20
   refine hK.out _ _ ⟨hq_u20, (HC.out.on (hq_u20)).c2, (HC.out.on (hq_u20)).c1⟩ (fun hHeld => ?_)
   clear hK K
   refine nm_ (some 63) ?_
   refine on1_ 12 (some 64) (bs 19 180223) rfl fun K hK => ?_
   refine gs_ Try.func55 #[cvV gf, numV t11] rfl ?_
   with_reducible refine (K12.out _ (HF.out.on hHeld.1)).mono ?_
   rintro e u21 ⟨rfl, hb_u21⟩
   refine ⟨_, rfl, ?_⟩
   have hq_u21 := bl_on hHeld.1 hb_u21 hHeld.1.size
   replace hzg10 := hzg10.on hb_u21
   refine hK.out _ _ ⟨hq_u21, (HC.out.on (hq_u21)).c2, (HC.out.on (hq_u21)).c1⟩ (fun hHeld => ?_)
   clear hK K
   refine nm_ (some 64) ?_
   refine on1_ 14 (some 66) (bs 19 196607) rfl fun K hK => ?_
   refine gF_ Try.func52 gf (numV t12) (numV t2) rfl ?_
   with_reducible refine (K13.out _ (HF.out.on hHeld.1)).mono ?_
   rintro e u22 ⟨rfl, hb_u22⟩
   refine ⟨_, rfl, ?_⟩
   have hq_u22 := bl_on hHeld.1 hb_u22 hHeld.1.size
   replace hzg10 := hzg10.on hb_u22
   refine hK.out _ _ ⟨hq_u22, (HC.out.on (hq_u22)).c2, (HC.out.on (hq_u22)).c1⟩ (fun hHeld => ?_)
   clear hK K
   refine nm_ (some 66) ?_
   refine on1_ 16 (some 68) (bs 19 262143) rfl fun K hK => ?_
   refine gF_ Try.func52 gf (numV t13) (numV t1) rfl ?_
   with_reducible refine (K14.out _ (HF.out.on hHeld.1)).mono ?_
   rintro e u23 ⟨rfl, hb_u23⟩
   refine ⟨_, rfl, ?_⟩
   have hq_u23 := bl_on hHeld.1 hb_u23 hHeld.1.size
   replace hzg10 := hzg10.on hb_u23
   refine hK.out _ _ ⟨hq_u23, (HC.out.on (hq_u23)).c2, (HC.out.on (hq_u23)).c1⟩ (fun hHeld => ?_)
   clear hK K
   refine nm_ (some 68) ?_
   exact norm_ (by simp only [putAll, aS]) (hCont (q19.heap.size) _ ⟨hHeld.1, hzg10, hsg10⟩)
 rintro g10 v24 ⟨hHeld0, hzg10, hsg10⟩
 have hHeld : Below q19.heap.size q19 v24 ∧ v24.cell? ⟨w.heap.size, 2, none⟩ = some (mthV 52 gf) ∧ v24.cell? ⟨w.heap.size, 1, none⟩ = some (mthV 51 gf) := ⟨hHeld0, (HC.out.on (hHeld0)).c2, (HC.out.on (hHeld0)).c1⟩
 clear hHeld0
 refine norm_ (a' := ?_) ?_ ?_
 rotate_left
 ·simp only [putAll, aS]
  rfl
 refine last_ (i := 18) (N := none) (bs 19 524287) rfl rfl (by kernel_rfl) (by decide) (fun K hK => ?_)
 refine skip_num (hzg10) (by rfl) rfl (.tmp 10) (.tmp 68) rfl rfl rfl ?_
 intro q25 hA_q25 hT_q25
 refine hK.out _ _ ?_
 clear hK K
 refine done_ (by kernel_rfl) ?_
 have HXg10 : Aside0 (w.heap.size + 1 + 1 + 1 ≤ g10 ∧ g5 < g10 ∧ g6 < g10 ∧ g7 < g10 ∧ g8 < g10 ∧ g9 < g10) := Aside0.mk (⟨Nat.le_trans HS.out hsg10, Nat.lt_of_lt_of_le Hg5.out.size hsg10, Nat.lt_of_lt_of_le Hg6.out.size hsg10, Nat.lt_of_lt_of_le Hg7.out.size hsg10, Nat.lt_of_lt_of_le Hg8.out.size hsg10, Nat.lt_of_lt_of_le Hg9.out.size hsg10⟩)
 replace HC := Aside0.mk (HC.out.on hHeld.1)
 replace HT := Aside0.mk (HT.out.on hHeld.1)
 replace HR := Aside0.mk (HR.out.on hHeld.1)
 replace Hg5 := Aside0.mk (Hg5.out.on hHeld.1)
 replace Hg6 := Aside0.mk (Hg6.out.on hHeld.1)
 replace Hg7 := Aside0.mk (Hg7.out.on hHeld.1)
 replace Hg8 := Aside0.mk (Hg8.out.on hHeld.1)
 replace Hg9 := Aside0.mk (Hg9.out.on hHeld.1)
 replace HF := Aside0.mk (HF.out.on hHeld.1)
 replace HB := Aside0.mk (bl_on HB.out hHeld.1 HB.out.size)
 replace HS := Aside0.mk (Nat.le_trans HS.out hHeld.1.size)
 replace HC := Aside0.mk (HC.out.but hT_q25 (by have := HXg5.out; have := HXg6.out; have := HXg7.out; have := HXg8.out; have := HXg9.out; have := HXg10.out; have := HXg5g6.out; have := HG.out; omega))
 replace HT := Aside0.mk (HT.out.but hT_q25 (by have := HXg5.out; have := HXg6.out; have := HXg7.out; have := HXg8.out; have := HXg9.out; have := HXg10.out; have := HXg5g6.out; have := HG.out; omega))
 replace HR := Aside0.mk (HR.out.but hT_q25 (by have := HXg5.out; have := HXg6.out; have := HXg7.out; have := HXg8.out; have := HXg9.out; have := HXg10.out; have := HXg5g6.out; have := HG.out; omega))
 replace Hg5 := Aside0.mk (Hg5.out.but hT_q25 (by have := HXg5.out; have := HXg6.out; have := HXg7.out; have := HXg8.out; have := HXg9.out; have := HXg10.out; have := HXg5g6.out; have := HG.out; omega))
 replace Hg6 := Aside0.mk (Hg6.out.but hT_q25 (by have := HXg5.out; have := HXg6.out; have := HXg7.out; have := HXg8.out; have := HXg9.out; have := HXg10.out; have := HXg5g6.out; have := HG.out; omega))
 replace Hg7 := Aside0.mk (Hg7.out.but hT_q25 (by have := HXg5.out; have := HXg6.out; have := HXg7.out; have := HXg8.out; have := HXg9.out; have := HXg10.out; have := HXg5g6.out; have := HG.out; omega))
 replace Hg8 := Aside0.mk (Hg8.out.but hT_q25 (by have := HXg5.out; have := HXg6.out; have := HXg7.out; have := HXg8.out; have := HXg9.out; have := HXg10.out; have := HXg5g6.out; have := HG.out; omega))
 replace Hg9 := Aside0.mk (Hg9.out.but hT_q25 (by have := HXg5.out; have := HXg6.out; have := HXg7.out; have := HXg8.out; have := HXg9.out; have := HXg10.out; have := HXg5g6.out; have := HG.out; omega))
 replace HF := Aside0.mk (HF.out.but hT_q25 (by have := HXg5.out; have := HXg6.out; have := HXg7.out; have := HXg8.out; have := HXg9.out; have := HXg10.out; have := HXg5g6.out; have := HG.out; omega))
 have Hg10 := Aside0.mk hA_q25
 replace HB := Aside0.mk (bl_but HB.out hT_q25 HB.out.size (by have := HXg5.out; have := HXg6.out; have := HXg7.out; have := HXg8.out; have := HXg9.out; have := HXg10.out; have := HXg5g6.out; have := HG.out; omega))
 replace HS := Aside0.mk (Nat.le_trans HS.out hT_q25.size)
 clear hA_q25 hT_q25 hzg10 hsg10 hHeld
 go_wp2
 refine start_ (n := 21) (S := fun w' => Below q25.heap.size q25 w' ∧ w'.cell? ⟨w.heap.size, 2, none⟩ = some (mthV 52 gf) ∧ w'.cell? ⟨w.heap.size, 3, none⟩ = some (mthV 53 gf)) (ds := [20]) (bs 21 0) (by kernel_rfl) rfl rfl ⟨(Below.refl _ _).drew, HC.out.c2, HC.out.c3⟩ (fun hHeld => ?_)
 refine pu_ 0 69 (bs 21 1) ?_ ?_ ?_ ?_ ?_
 rotate_left
 ·intro w'
  go_simp
  with_reducible rfl
 rotate_left
 ·simp only [aS, i64_w, i32_w]
  rfl
 refine pu_ 2 71 (bs 21 5) ?_ ?_ ?_ ?_ ?_
 rotate_left
 ·intro w'
  go_simp
  with_reducible rfl
 rotate_left
 ·simp only [aS, i64_w, i32_w]
  rfl
 refine pu_ 5 74 (bs 21 37) ?_ ?_ ?_ ?_ ?_
 rotate_left
 ·intro w'
  go_simp
  with_reducible rfl
 rotate_left
 ·simp only [aS, i64_w, i32_w]
  rfl
 refine tk_ 1 70 (bs 21 39) ?_ ?_ hHeld ?_ ?_ ?_
 rotate_left
 ·rintro w' ⟨s0, s1, s2⟩
  go_simp
  with_reducible rfl
 rotate_left
 ·simp only [aS, i64_w, i32_w]
  rfl
 refine tk_ 3 72 (bs 21 47) ?_ ?_ hHeld ?_ ?_ ?_
 rotate_left
 ·rintro w' ⟨s0, s1, s2⟩
  go_simp
  with_reducible rfl
 rotate_left
 ·simp only [aS, i64_w, i32_w]
  rfl
 refine take_ (i := 4) (N := some 73) (a' := ?_) (bs 21 63) rfl rfl (by kernel_rfl) (fun _ _ _ h => h) (yields_num (g := g8) (o := 0) (n := t7) (by rfl) (.tmp 8) rfl rfl (fun w' hS => (Hg8.out.on hS.1).range)) hHeld ?_ ?_
 rotate_left
 ·simp only [aS, i64_w, i32_w]
  rfl
 refine tk_ 6 75 (bs 21 127) ?_ ?_ hHeld ?_ ?_ ?_
 rotate_left
 ·rintro w' ⟨s0, s1, s2⟩
  go_simp
  with_reducible rfl
 rotate_left
 ·simp only [aS, i64_w, i32_w]
  rfl
 refine take_ (i := 7) (N := some 76) (a' := ?_) (bs 21 255) rfl rfl (by kernel_rfl) (fun _ _ _ h => h) (yieldsIf_load_mid (by rfl) 58 (.tmp 2) rfl w.heap.size 0 rfl ((cvl gf)) _ (fun w' hS => (HC.out.on hS.1).range) rfl rfl (rfl)) hHeld ?_ ?_
 rotate_left
 ·simp only [aS, i64_w, i32_w]
  rfl
 refine take_ (i := 8) (N := some 77) (a' := ?_) (bs 21 511) rfl rfl (by kernel_rfl) (fun _ _ _ h => h) (yields_num (g := g7) (o := 0) (n := t3) (by rfl) (.tmp 7) rfl rfl (fun w' hS => (Hg7.out.on hS.1).range)) hHeld ?_ ?_
 rotate_left
 ·simp only [aS, i64_w, i32_w]
  rfl
 refine take_ (i := 10) (N := some 79) (a' := ?_) (bs 21 1535) rfl rfl (by kernel_rfl) (fun _ _ _ h => h) (yields_num (g := g9) (o := 0) (n := t10) (by rfl) (.tmp 9) rfl rfl (fun w' hS => (Hg9.out.on hS.1).range)) hHeld ?_ ?_
 rotate_left
 ·simp only [aS, i64_w, i32_w]
  rfl
 refine take_ (i := 13) (N := some 82) (a' := ?_) (bs 21 9727) rfl rfl (by kernel_rfl) (fun _ _ _ h => h) (yieldsIf_load_mid (by rfl) 58 (.tmp 2) rfl w.heap.size 0 rfl ((cvl gf)) _ (fun w' hS => (HC.out.on hS.1).range) rfl rfl (rfl)) hHeld ?_ ?_
 rotate_left
 ·simp only [aS, i64_w, i32_w]
  rfl
 refine take_ (i := 14) (N := some 83) (a' := ?_) (bs 21 26111) rfl rfl (by kernel_rfl) (fun _ _ _ h => h) (yieldsIf_load_mid (by rfl) 58 (.tmp 2) rfl w.heap.size 0 rfl ((cvl gf)) _ (fun w' hS => (HC.out.on hS.1).range) rfl rfl (rfl)) hHeld ?_ ?_
 rotate_left
 ·simp only [aS, i64_w, i32_w]
  rfl
 refine take_ (i := 15) (N := some 84) (a' := ?_) (bs 21 58879) rfl rfl (by kernel_rfl) (fun _ _ _ h => h) (yields_num (g := g6) (o := 0) (n := t2) (by rfl) (.tmp 6) rfl rfl (fun w' hS => (Hg6.out.on hS.1).range)) hHeld ?_ ?_
 rotate_left
 ·simp only [aS, i64_w, i32_w]
  rfl
 refine join_ (σ := Nat) 1 (bs 21 1048575) (fun s => [(11, .pointer (some ⟨s, 0, none⟩)), (78, numV t15), (80, numV t16), (81, numV t17), (85, numV t18), (86, numV t19), (87, numV t20)]) (fun s w' => Below q25.heap.size q25 w' ∧ NAt w' s 0 ∧ q25.heap.size ≤ s) ?_ ?_
 rotate_left
 ·intro hCont
  refine tw_ 9 19 (some 78) (some 11) (bs 21 59391) (bs 21 583167) rfl rfl (fun K hK => ?_) (fun K hK => ?_)
  ·skip
   refine gs_ Try.func56 #[cvV gf, numV t3, .int .u64 ((4 : Nat) : Int)] rfl ?_
   with_reducible refine (K15.out _ (HF.out.on hHeld.1)).mono ?_
   rintro e u26 ⟨rfl, hb_u26⟩
   refine ⟨_, rfl, ?_⟩
   have hq_u26 := bl_on hHeld.1 hb_u26 hHeld.1.size
   refine hK.out _ _ ⟨hq_u26, (HC.out.on (hq_u26)).c2, (HC.out.on (hq_u26)).c3⟩ (fun hHeld => ?_)
   clear hK K
   refine nm_ (some 78) ?_
   refine tw_ 11 19 (some 80) (some 11) (bs 21 61439) (bs 21 583679) rfl rfl (fun K hK => ?_) (fun K hK => ?_)
   ·skip
    refine gF_ Try.func52 gf (numV t15) (numV t10) rfl ?_
    with_reducible refine (K16.out _ (HF.out.on hHeld.1)).mono ?_
    rintro e u27 ⟨rfl, hb_u27⟩
    refine ⟨_, rfl, ?_⟩
    have hq_u27 := bl_on hHeld.1 hb_u27 hHeld.1.size
    refine hK.out _ _ ⟨hq_u27, (HC.out.on (hq_u27)).c2, (HC.out.on (hq_u27)).c3⟩ (fun hHeld => ?_)
    clear hK K
    refine nm_ (some 80) ?_
    refine tw_ 12 19 (some 81) (some 11) (bs 21 65535) (bs 21 585727) rfl rfl (fun K hK => ?_) (fun K hK => ?_)
    ·skip
     refine gF_ Try.func53 gf (numV t7) (numV t16) rfl ?_
     with_reducible refine (K17.out _ (HF.out.on hHeld.1)).mono ?_
     rintro e u28 ⟨rfl, hb_u28⟩
     refine ⟨_, rfl, ?_⟩
     have hq_u28 := bl_on hHeld.1 hb_u28 hHeld.1.size
     refine hK.out _ _ ⟨hq_u28, (HC.out.on (hq_u28)).c2, (HC.out.on (hq_u28)).c3⟩ (fun hHeld => ?_)
     clear hK K
     refine nm_ (some 81) ?_
     refine tw_ 16 19 (some 85) (some 11) (bs 21 131071) (bs 21 589823) rfl rfl (fun K hK => ?_) (fun K hK => ?_)
     ·skip
      refine gs_ Try.func55 #[cvV gf, numV t2] rfl ?_
      with_reducible refine (K18.out _ (HF.out.on hHeld.1)).mono ?_
      rintro e u29 ⟨rfl, hb_u29⟩
      refine ⟨_, rfl, ?_⟩
      have hq_u29 := bl_on hHeld.1 hb_u29 hHeld.1.size
      refine hK.out _ _ ⟨hq_u29, (HC.out.on (hq_u29)).c2, (HC.out.on (hq_u29)).c3⟩ (fun hHeld => ?_)
      clear hK K
      refine nm_ (some 85) ?_
      refine tw_ 17 19 (some 86) (some 11) (bs 21 262143) (bs 21 655359) rfl rfl (fun K hK => ?_) (fun K hK => ?_)
      ·skip
       refine gs_ Try.func56 #[cvV gf, numV t18, .int .u64 ((8 : Nat) : Int)] rfl ?_
       with_reducible refine (K19.out _ (HF.out.on hHeld.1)).mono ?_
       rintro e u30 ⟨rfl, hb_u30⟩
       refine ⟨_, rfl, ?_⟩
       have hq_u30 := bl_on hHeld.1 hb_u30 hHeld.1.size
       refine hK.out _ _ ⟨hq_u30, (HC.out.on (hq_u30)).c2, (HC.out.on (hq_u30)).c3⟩ (fun hHeld => ?_)
       clear hK K
       refine nm_ (some 86) ?_
       refine tw_ 18 19 (some 87) (some 11) (bs 21 524287) (bs 21 786431) rfl rfl (fun K hK => ?_) (fun K hK => ?_)
       ·skip
        refine gF_ Try.func52 gf (numV t17) (numV t19) rfl ?_
        with_reducible refine (K20.out _ (HF.out.on hHeld.1)).mono ?_
        rintro e u31 ⟨rfl, hb_u31⟩
        refine ⟨_, rfl, ?_⟩
        have hq_u31 := bl_on hHeld.1 hb_u31 hHeld.1.size
        refine hK.out _ _ ⟨hq_u31, (HC.out.on (hq_u31)).c2, (HC.out.on (hq_u31)).c3⟩ (fun hHeld => ?_)
        clear hK K
        refine nm_ (some 87) ?_
        refine on1_ 19 (some 11) (bs 21 1048575) rfl fun K hK => ?_
        refine value_ (w1 := ?_) (v := ?_) (by rfl) rfl ?_ ?_
        rotate_left 2
        ·go_simp
         constructor
         ·rfl
         ·rfl
        have hzg11 : NAt (World.alloc u31 (.cells (nw 0).toArray 24)) (u31.heap.size) 0 := by have h_ := Row.new u31 24 (nw 0); first | exact h_ | (simp only [alloc_sz] at h_; exact h_) | omega
        have hsg11 : q25.heap.size ≤ u31.heap.size := by have h_ := hHeld.1.size; first | exact h_ | (simp only [alloc_sz] at h_; exact h_) | omega
        refine hK.out _ _ ⟨below_alloc hHeld.1 _, (HC.out.on (below_alloc hHeld.1 _)).c2, (HC.out.on (below_alloc hHeld.1 _)).c3⟩ (fun hHeld => ?_)
        clear hK K
        refine nm_ (some 11) ?_
        exact norm_ (by simp only [putAll, aS]) (hCont (u31.heap.size) _ ⟨hHeld.1, hzg11, hsg11⟩)
       ·skip
        refine value_ (w1 := ?_) (v := ?_) (by rfl) rfl ?_ ?_
        rotate_left 2
        ·go_simp
         constructor
         ·rfl
         ·rfl
        have hzg11 : NAt (World.alloc u30 (.cells (nw 0).toArray 24)) (u30.heap.size) 0 := by have h_ := Row.new u30 24 (nw 0); first | exact h_ | (simp only [alloc_sz] at h_; exact h_) | omega
        have hsg11 : q25.heap.size ≤ u30.heap.size := by have h_ := hHeld.1.size; first | exact h_ | (simp only [alloc_sz] at h_; exact h_) | omega
        refine hK.out _ _ ⟨below_alloc hHeld.1 _, (HC.out.on (below_alloc hHeld.1 _)).c2, (HC.out.on (below_alloc hHeld.1 _)).c3⟩ (fun hHeld => ?_)
        clear hK K
        refine nm_ (some 11) ?_
        refine on1_ 18 (some 87) (bs 21 1048575) rfl fun K hK => ?_
        refine gF_ Try.func52 gf (numV t17) (numV t19) rfl ?_
        with_reducible refine (K20.out _ (HF.out.on hHeld.1)).mono ?_
        rintro e u31 ⟨rfl, hb_u31⟩
        refine ⟨_, rfl, ?_⟩
        have hq_u31 := bl_on hHeld.1 hb_u31 hHeld.1.size
        replace hzg11 := hzg11.on hb_u31
        refine hK.out _ _ ⟨hq_u31, (HC.out.on (hq_u31)).c2, (HC.out.on (hq_u31)).c3⟩ (fun hHeld => ?_)
        clear hK K
        refine nm_ (some 87) ?_
        exact norm_ (by simp only [putAll, aS]) (hCont (u30.heap.size) _ ⟨hHeld.1, hzg11, hsg11⟩)
      ·skip
       refine value_ (w1 := ?_) (v := ?_) (by rfl) rfl ?_ ?_
       rotate_left 2
       ·go_simp
        constructor
        ·rfl
        ·rfl
       have hzg11 : NAt (World.alloc u29 (.cells (nw 0).toArray 24)) (u29.heap.size) 0 := by have h_ := Row.new u29 24 (nw 0); first | exact h_ | (simp only [alloc_sz] at h_; exact h_) | omega
       have hsg11 : q25.heap.size ≤ u29.heap.size := by have h_ := hHeld.1.size; first | exact h_ | (simp only [alloc_sz] at h_; exact h_) | omega
       refine hK.out _ _ ⟨below_alloc hHeld.1 _, (HC.out.on (below_alloc hHeld.1 _)).c2, (HC.out.on (below_alloc hHeld.1 _)).c3⟩ (fun hHeld => ?_)
       clear hK K
       refine nm_ (some 11) ?_
       refine on1_ 17 (some 86) (bs 21 786431) rfl fun K hK => ?_
       refine gs_ Try.func56 #[cvV gf, numV t18, .int .u64 ((8 : Nat) : Int)] rfl ?_
       with_reducible refine (K19.out _ (HF.out.on hHeld.1)).mono ?_
       rintro e u30 ⟨rfl, hb_u30⟩
       refine ⟨_, rfl, ?_⟩
       have hq_u30 := bl_on hHeld.1 hb_u30 hHeld.1.size
       replace hzg11 := hzg11.on hb_u30
       refine hK.out _ _ ⟨hq_u30, (HC.out.on (hq_u30)).c2, (HC.out.on (hq_u30)).c3⟩ (fun hHeld => ?_)
       clear hK K
       refine nm_ (some 86) ?_
       refine on1_ 18 (some 87) (bs 21 1048575) rfl fun K hK => ?_
       refine gF_ Try.func52 gf (numV t17) (numV t19) rfl ?_
       with_reducible refine (K20.out _ (HF.out.on hHeld.1)).mono ?_
       rintro e u31 ⟨rfl, hb_u31⟩
       refine ⟨_, rfl, ?_⟩
       have hq_u31 := bl_on hHeld.1 hb_u31 hHeld.1.size
       replace hzg11 := hzg11.on hb_u31
       refine hK.out _ _ ⟨hq_u31, (HC.out.on (hq_u31)).c2, (HC.out.on (hq_u31)).c3⟩ (fun hHeld => ?_)
       clear hK K
       refine nm_ (some 87) ?_
       exact norm_ (by simp only [putAll, aS]) (hCont (u29.heap.size) _ ⟨hHeld.1, hzg11, hsg11⟩)
     ·skip
      refine value_ (w1 := ?_) (v := ?_) (by rfl) rfl ?_ ?_
      rotate_left 2
      ·go_simp
       constructor
       ·rfl
       ·rfl
      have hzg11 : NAt (World.alloc u28 (.cells (nw 0).toArray 24)) (u28.heap.size) 0 := by have h_ := Row.new u28 24 (nw 0); first | exact h_ | (simp only [alloc_sz] at h_; exact h_) | omega
      have hsg11 : q25.heap.size ≤ u28.heap.size := by have h_ := hHeld.1.size; first | exact h_ | (simp only [alloc_sz] at h_; exact h_) | omega
      refine hK.out _ _ ⟨below_alloc hHeld.1 _, (HC.out.on (below_alloc hHeld.1 _)).c2, (HC.out.on (below_alloc hHeld.1 _)).c3⟩ (fun hHeld => ?_)
      clear hK K
      refine nm_ (some 11) ?_
      refine on1_ 16 (some 85) (bs 21 655359) rfl fun K hK => ?_
      refine gs_ Try.func55 #[cvV gf, numV t2] rfl ?_
      with_reducible refine (K18.out _ (HF.out.on hHeld.1)).mono ?_
      rintro e u29 ⟨rfl, hb_u29⟩
      refine ⟨_, rfl, ?_⟩
      have hq_u29 := bl_on hHeld.1 hb_u29 hHeld.1.size
      replace hzg11 := hzg11.on hb_u29
      refine hK.out _ _ ⟨hq_u29, (HC.out.on (hq_u29)).c2, (HC.out.on (hq_u29)).c3⟩ (fun hHeld => ?_)
      clear hK K
      refine nm_ (some 85) ?_
      refine on1_ 17 (some 86) (bs 21 786431) rfl fun K hK => ?_
      refine gs_ Try.func56 #[cvV gf, numV t18, .int .u64 ((8 : Nat) : Int)] rfl ?_
      with_reducible refine (K19.out _ (HF.out.on hHeld.1)).mono ?_
      rintro e u30 ⟨rfl, hb_u30⟩
      refine ⟨_, rfl, ?_⟩
      have hq_u30 := bl_on hHeld.1 hb_u30 hHeld.1.size
      replace hzg11 := hzg11.on hb_u30
      refine hK.out _ _ ⟨hq_u30, (HC.out.on (hq_u30)).c2, (HC.out.on (hq_u30)).c3⟩ (fun hHeld => ?_)
      clear hK K
      refine nm_ (some 86) ?_
      refine on1_ 18 (some 87) (bs 21 1048575) rfl fun K hK => ?_
      refine gF_ Try.func52 gf (numV t17) (numV t19) rfl ?_
      with_reducible refine (K20.out _ (HF.out.on hHeld.1)).mono ?_
      rintro e u31 ⟨rfl, hb_u31⟩
      refine ⟨_, rfl, ?_⟩
      have hq_u31 := bl_on hHeld.1 hb_u31 hHeld.1.size
      replace hzg11 := hzg11.on hb_u31
      refine hK.out _ _ ⟨hq_u31, (HC.out.on (hq_u31)).c2, (HC.out.on (hq_u31)).c3⟩ (fun hHeld => ?_)
      clear hK K
      refine nm_ (some 87) ?_
      exact norm_ (by simp only [putAll, aS]) (hCont (u28.heap.size) _ ⟨hHeld.1, hzg11, hsg11⟩)
    ·skip
     refine value_ (w1 := ?_) (v := ?_) (by rfl) rfl ?_ ?_
     rotate_left 2
     ·go_simp
      constructor
      ·rfl
      ·rfl
     have hzg11 : NAt (World.alloc u27 (.cells (nw 0).toArray 24)) (u27.heap.size) 0 := by have h_ := Row.new u27 24 (nw 0); first | exact h_ | (simp only [alloc_sz] at h_; exact h_) | omega
     have hsg11 : q25.heap.size ≤ u27.heap.size := by have h_ := hHeld.1.size; first | exact h_ | (simp only [alloc_sz] at h_; exact h_) | omega
     refine hK.out _ _ ⟨below_alloc hHeld.1 _, (HC.out.on (below_alloc hHeld.1 _)).c2, (HC.out.on (below_alloc hHeld.1 _)).c3⟩ (fun hHeld => ?_)
     clear hK K
     refine nm_ (some 11) ?_
     refine on1_ 12 (some 81) (bs 21 589823) rfl fun K hK => ?_
     refine gF_ Try.func53 gf (numV t7) (numV t16) rfl ?_
     with_reducible refine (K17.out _ (HF.out.on hHeld.1)).mono ?_
     rintro e u28 ⟨rfl, hb_u28⟩
     refine ⟨_, rfl, ?_⟩
     have hq_u28 := bl_on hHeld.1 hb_u28 hHeld.1.size
     replace hzg11 := hzg11.on hb_u28
     refine hK.out _ _ ⟨hq_u28, (HC.out.on (hq_u28)).c2, (HC.out.on (hq_u28)).c3⟩ (fun hHeld => ?_)
     clear hK K
     refine nm_ (some 81) ?_
     refine on1_ 16 (some 85) (bs 21 655359) rfl fun K hK => ?_
     refine gs_ Try.func55 #[cvV gf, numV t2] rfl ?_
     with_reducible refine (K18.out _ (HF.out.on hHeld.1)).mono ?_
     rintro e u29 ⟨rfl, hb_u29⟩
     refine ⟨_, rfl, ?_⟩
     have hq_u29 := bl_on hHeld.1 hb_u29 hHeld.1.size
     replace hzg11 := hzg11.on hb_u29
     refine hK.out _ _ ⟨hq_u29, (HC.out.on (hq_u29)).c2, (HC.out.on (hq_u29)).c3⟩ (fun hHeld => ?_)
     clear hK K
     refine nm_ (some 85) ?_
     refine on1_ 17 (some 86) (bs 21 786431) rfl fun K hK => ?_
     refine gs_ Try.func56 #[cvV gf, numV t18, .int .u64 ((8 : Nat) : Int)] rfl ?_
     with_reducible refine (K19.out _ (HF.out.on hHeld.1)).mono ?_
     rintro e u30 ⟨rfl, hb_u30⟩
     refine ⟨_, rfl, ?_⟩
     have hq_u30 := bl_on hHeld.1 hb_u30 hHeld.1.size
     replace hzg11 := hzg11.on hb_u30
     refine hK.out _ _ ⟨hq_u30, (HC.out.on (hq_u30)).c2, (HC.out.on (hq_u30)).c3⟩ (fun hHeld => ?_)
     clear hK K
     refine nm_ (some 86) ?_
     refine on1_ 18 (some 87) (bs 21 1048575) rfl fun K hK => ?_
     refine gF_ Try.func52 gf (numV t17) (numV t19) rfl ?_
     with_reducible refine (K20.out _ (HF.out.on hHeld.1)).mono ?_
     rintro e u31 ⟨rfl, hb_u31⟩
     refine ⟨_, rfl, ?_⟩
     have hq_u31 := bl_on hHeld.1 hb_u31 hHeld.1.size
     replace hzg11 := hzg11.on hb_u31
     refine hK.out _ _ ⟨hq_u31, (HC.out.on (hq_u31)).c2, (HC.out.on (hq_u31)).c3⟩ (fun hHeld => ?_)
     clear hK K
     refine nm_ (some 87) ?_
     exact norm_ (by simp only [putAll, aS]) (hCont (u27.heap.size) _ ⟨hHeld.1, hzg11, hsg11⟩)
   ·skip
    refine value_ (w1 := ?_) (v := ?_) (by rfl) rfl ?_ ?_
    rotate_left 2
    ·go_simp
     constructor
     ·rfl
     ·rfl
    have hzg11 : NAt (World.alloc u26 (.cells (nw 0).toArray 24)) (u26.heap.size) 0 := by have h_ := Row.new u26 24 (nw 0); first | exact h_ | (simp only [alloc_sz] at h_; exact h_) | omega
    have hsg11 : q25.heap.size ≤ u26.heap.size := by have h_ := hHeld.1.size; first | exact h_ | (simp only [alloc_sz] at h_; exact h_) | omega
    refine hK.out _ _ ⟨below_alloc hHeld.1 _, (HC.out.on (below_alloc hHeld.1 _)).c2, (HC.out.on (below_alloc hHeld.1 _)).c3⟩ (fun hHeld => ?_)
    clear hK K
    refine nm_ (some 11) ?_
    refine on1_ 11 (some 80) (bs 21 585727) rfl fun K hK => ?_
    refine gF_ Try.func52 gf (numV t15) (numV t10) rfl ?_
    with_reducible refine (K16.out _ (HF.out.on hHeld.1)).mono ?_
    rintro e u27 ⟨rfl, hb_u27⟩
    refine ⟨_, rfl, ?_⟩
    have hq_u27 := bl_on hHeld.1 hb_u27 hHeld.1.size
    replace hzg11 := hzg11.on hb_u27
    refine hK.out _ _ ⟨hq_u27, (HC.out.on (hq_u27)).c2, (HC.out.on (hq_u27)).c3⟩ (fun hHeld => ?_)
    clear hK K
    refine nm_ (some 80) ?_
    refine on1_ 12 (some 81) (bs 21 589823) rfl fun K hK => ?_
    refine gF_ Try.func53 gf (numV t7) (numV t16) rfl ?_
    with_reducible refine (K17.out _ (HF.out.on hHeld.1)).mono ?_
    rintro e u28 ⟨rfl, hb_u28⟩
    refine ⟨_, rfl, ?_⟩
    have hq_u28 := bl_on hHeld.1 hb_u28 hHeld.1.size
    replace hzg11 := hzg11.on hb_u28
    refine hK.out _ _ ⟨hq_u28, (HC.out.on (hq_u28)).c2, (HC.out.on (hq_u28)).c3⟩ (fun hHeld => ?_)
    clear hK K
    refine nm_ (some 81) ?_
    refine on1_ 16 (some 85) (bs 21 655359) rfl fun K hK => ?_
    refine gs_ Try.func55 #[cvV gf, numV t2] rfl ?_
    with_reducible refine (K18.out _ (HF.out.on hHeld.1)).mono ?_
    rintro e u29 ⟨rfl, hb_u29⟩
    refine ⟨_, rfl, ?_⟩
    have hq_u29 := bl_on hHeld.1 hb_u29 hHeld.1.size
    replace hzg11 := hzg11.on hb_u29
    refine hK.out _ _ ⟨hq_u29, (HC.out.on (hq_u29)).c2, (HC.out.on (hq_u29)).c3⟩ (fun hHeld => ?_)
    clear hK K
    refine nm_ (some 85) ?_
    refine on1_ 17 (some 86) (bs 21 786431) rfl fun K hK => ?_
    refine gs_ Try.func56 #[cvV gf, numV t18, .int .u64 ((8 : Nat) : Int)] rfl ?_
    with_reducible refine (K19.out _ (HF.out.on hHeld.1)).mono ?_
    rintro e u30 ⟨rfl, hb_u30⟩
    refine ⟨_, rfl, ?_⟩
    have hq_u30 := bl_on hHeld.1 hb_u30 hHeld.1.size
    replace hzg11 := hzg11.on hb_u30
    refine hK.out _ _ ⟨hq_u30, (HC.out.on (hq_u30)).c2, (HC.out.on (hq_u30)).c3⟩ (fun hHeld => ?_)
    clear hK K
    refine nm_ (some 86) ?_
    refine on1_ 18 (some 87) (bs 21 1048575) rfl fun K hK => ?_
    refine gF_ Try.func52 gf (numV t17) (numV t19) rfl ?_
    with_reducible refine (K20.out _ (HF.out.on hHeld.1)).mono ?_
    rintro e u31 ⟨rfl, hb_u31⟩
    refine ⟨_, rfl, ?_⟩
    have hq_u31 := bl_on hHeld.1 hb_u31 hHeld.1.size
    replace hzg11 := hzg11.on hb_u31
    refine hK.out _ _ ⟨hq_u31, (HC.out.on (hq_u31)).c2, (HC.out.on (hq_u31)).c3⟩ (fun hHeld => ?_)
    clear hK K
    refine nm_ (some 87) ?_
    exact norm_ (by simp only [putAll, aS]) (hCont (u26.heap.size) _ ⟨hHeld.1, hzg11, hsg11⟩)
  ·skip
   refine value_ (w1 := ?_) (v := ?_) (by rfl) rfl ?_ ?_
   rotate_left 2
   ·go_simp
    constructor
    ·rfl
    ·rfl
   have hzg11 : NAt (World.alloc (World.drew q25) (.cells (nw 0).toArray 24)) (q25.heap.size) 0 := by have h_ := Row.new (World.drew q25) 24 (nw 0); first | exact h_ | (simp only [alloc_sz] at h_; exact h_) | omega
   have hsg11 : q25.heap.size ≤ q25.heap.size := by have h_ := hHeld.1.size; first | exact h_ | (simp only [alloc_sz] at h_; exact h_) | omega
   refine hK.out _ _ ⟨below_alloc hHeld.1 _, (HC.out.on (below_alloc hHeld.1 _)).c2, (HC.out.on (below_alloc hHeld.1 _)).c3⟩ (fun hHeld => ?_)
   clear hK K
   refine nm_ (some 11) ?_
   refine on1_ 9 (some 78) (bs 21 583679) rfl fun K hK => ?_
   refine gs_ Try.func56 #[cvV gf, numV t3, .int .u64 ((4 : Nat) : Int)] rfl ?_
   with_reducible refine (K15.out _ (HF.out.on hHeld.1)).mono ?_
   rintro e u26 ⟨rfl, hb_u26⟩
   refine ⟨_, rfl, ?_⟩
   have hq_u26 := bl_on hHeld.1 hb_u26 hHeld.1.size
   replace hzg11 := hzg11.on hb_u26
   refine hK.out _ _ ⟨hq_u26, (HC.out.on (hq_u26)).c2, (HC.out.on (hq_u26)).c3⟩ (fun hHeld => ?_)
   clear hK K
   refine nm_ (some 78) ?_
   refine on1_ 11 (some 80) (bs 21 585727) rfl fun K hK => ?_
   refine gF_ Try.func52 gf (numV t15) (numV t10) rfl ?_
   with_reducible refine (K16.out _ (HF.out.on hHeld.1)).mono ?_
   rintro e u27 ⟨rfl, hb_u27⟩
   refine ⟨_, rfl, ?_⟩
   have hq_u27 := bl_on hHeld.1 hb_u27 hHeld.1.size
   replace hzg11 := hzg11.on hb_u27
   refine hK.out _ _ ⟨hq_u27, (HC.out.on (hq_u27)).c2, (HC.out.on (hq_u27)).c3⟩ (fun hHeld => ?_)
   clear hK K
   refine nm_ (some 80) ?_
   refine on1_ 12 (some 81) (bs 21 589823) rfl fun K hK => ?_
   refine gF_ Try.func53 gf (numV t7) (numV t16) rfl ?_
   with_reducible refine (K17.out _ (HF.out.on hHeld.1)).mono ?_
   rintro e u28 ⟨rfl, hb_u28⟩
   refine ⟨_, rfl, ?_⟩
   have hq_u28 := bl_on hHeld.1 hb_u28 hHeld.1.size
   replace hzg11 := hzg11.on hb_u28
   refine hK.out _ _ ⟨hq_u28, (HC.out.on (hq_u28)).c2, (HC.out.on (hq_u28)).c3⟩ (fun hHeld => ?_)
   clear hK K
   refine nm_ (some 81) ?_
   refine on1_ 16 (some 85) (bs 21 655359) rfl fun K hK => ?_
   refine gs_ Try.func55 #[cvV gf, numV t2] rfl ?_
   with_reducible refine (K18.out _ (HF.out.on hHeld.1)).mono ?_
   rintro e u29 ⟨rfl, hb_u29⟩
   refine ⟨_, rfl, ?_⟩
   have hq_u29 := bl_on hHeld.1 hb_u29 hHeld.1.size
   replace hzg11 := hzg11.on hb_u29
   refine hK.out _ _ ⟨hq_u29, (HC.out.on (hq_u29)).c2, (HC.out.on (hq_u29)).c3⟩ (fun hHeld => ?_)
   clear hK K
   refine nm_ (some 85) ?_
   refine on1_ 17 (some 86) (bs 21 786431) rfl fun K hK => ?_
   refine gs_ Try.func56 #[cvV gf, numV t18, .int .u64 ((8 : Nat) : Int)] rfl ?_
   with_reducible refine (K19.out _ (HF.out.on hHeld.1)).mono ?_
   rintro e u30 ⟨rfl, hb_u30⟩
   refine ⟨_, rfl, ?_⟩
   have hq_u30 := bl_on hHeld.1 hb_u30 hHeld.1.size
   replace hzg11 := hzg11.on hb_u30
   refine hK.out _ _ ⟨hq_u30, (HC.out.on (hq_u30)).c2, (HC.out.on (hq_u30)).c3⟩ (fun hHeld => ?_)
   clear hK K
   refine nm_ (some 86) ?_
   refine on1_ 18 (some 87) (bs 21 1048575) rfl fun K hK => ?_
   refine gF_ Try.func52 gf (numV t17) (numV t19) rfl ?_
   with_reducible refine (K20.out _ (HF.out.on hHeld.1)).mono ?_
   rintro e u31 ⟨rfl, hb_u31⟩
   refine ⟨_, rfl, ?_⟩
   have hq_u31 := bl_on hHeld.1 hb_u31 hHeld.1.size
   replace hzg11 := hzg11.on hb_u31
   refine hK.out _ _ ⟨hq_u31, (HC.out.on (hq_u31)).c2, (HC.out.on (hq_u31)).c3⟩ (fun hHeld => ?_)
   clear hK K
   refine nm_ (some 87) ?_
   exact norm_ (by simp only [putAll, aS]) (hCont (q25.heap.size) _ ⟨hHeld.1, hzg11, hsg11⟩)
 rintro g11 v32 ⟨hHeld0, hzg11, hsg11⟩
 have hHeld : Below q25.heap.size q25 v32 ∧ v32.cell? ⟨w.heap.size, 2, none⟩ = some (mthV 52 gf) ∧ v32.cell? ⟨w.heap.size, 3, none⟩ = some (mthV 53 gf) := ⟨hHeld0, (HC.out.on (hHeld0)).c2, (HC.out.on (hHeld0)).c3⟩
 clear hHeld0
 refine norm_ (a' := ?_) ?_ ?_
 rotate_left
 ·simp only [putAll, aS]
  rfl
 refine last_ (i := 20) (N := none) (bs 21 2097151) rfl rfl (by kernel_rfl) (by decide) (fun K hK => ?_)
 refine skip_num (hzg11) (by rfl) rfl (.tmp 11) (.tmp 87) rfl rfl rfl ?_
 intro q33 hA_q33 hT_q33
 refine hK.out _ _ ?_
 clear hK K
 refine done_ (by kernel_rfl) ?_
 have HXg11 : Aside0 (w.heap.size + 1 + 1 + 1 ≤ g11 ∧ g5 < g11 ∧ g6 < g11 ∧ g7 < g11 ∧ g8 < g11 ∧ g9 < g11 ∧ g10 < g11) := Aside0.mk (⟨Nat.le_trans HS.out hsg11, Nat.lt_of_lt_of_le Hg5.out.size hsg11, Nat.lt_of_lt_of_le Hg6.out.size hsg11, Nat.lt_of_lt_of_le Hg7.out.size hsg11, Nat.lt_of_lt_of_le Hg8.out.size hsg11, Nat.lt_of_lt_of_le Hg9.out.size hsg11, Nat.lt_of_lt_of_le Hg10.out.size hsg11⟩)
 replace HC := Aside0.mk (HC.out.on hHeld.1)
 replace HT := Aside0.mk (HT.out.on hHeld.1)
 replace HR := Aside0.mk (HR.out.on hHeld.1)
 replace Hg5 := Aside0.mk (Hg5.out.on hHeld.1)
 replace Hg6 := Aside0.mk (Hg6.out.on hHeld.1)
 replace Hg7 := Aside0.mk (Hg7.out.on hHeld.1)
 replace Hg8 := Aside0.mk (Hg8.out.on hHeld.1)
 replace Hg9 := Aside0.mk (Hg9.out.on hHeld.1)
 replace Hg10 := Aside0.mk (Hg10.out.on hHeld.1)
 replace HF := Aside0.mk (HF.out.on hHeld.1)
 replace HB := Aside0.mk (bl_on HB.out hHeld.1 HB.out.size)
 replace HS := Aside0.mk (Nat.le_trans HS.out hHeld.1.size)
 replace HC := Aside0.mk (HC.out.but hT_q33 (by have := HXg5.out; have := HXg6.out; have := HXg7.out; have := HXg8.out; have := HXg9.out; have := HXg10.out; have := HXg11.out; have := HXg5g6.out; have := HG.out; omega))
 replace HT := Aside0.mk (HT.out.but hT_q33 (by have := HXg5.out; have := HXg6.out; have := HXg7.out; have := HXg8.out; have := HXg9.out; have := HXg10.out; have := HXg11.out; have := HXg5g6.out; have := HG.out; omega))
 replace HR := Aside0.mk (HR.out.but hT_q33 (by have := HXg5.out; have := HXg6.out; have := HXg7.out; have := HXg8.out; have := HXg9.out; have := HXg10.out; have := HXg11.out; have := HXg5g6.out; have := HG.out; omega))
 replace Hg5 := Aside0.mk (Hg5.out.but hT_q33 (by have := HXg5.out; have := HXg6.out; have := HXg7.out; have := HXg8.out; have := HXg9.out; have := HXg10.out; have := HXg11.out; have := HXg5g6.out; have := HG.out; omega))
 replace Hg6 := Aside0.mk (Hg6.out.but hT_q33 (by have := HXg5.out; have := HXg6.out; have := HXg7.out; have := HXg8.out; have := HXg9.out; have := HXg10.out; have := HXg11.out; have := HXg5g6.out; have := HG.out; omega))
 replace Hg7 := Aside0.mk (Hg7.out.but hT_q33 (by have := HXg5.out; have := HXg6.out; have := HXg7.out; have := HXg8.out; have := HXg9.out; have := HXg10.out; have := HXg11.out; have := HXg5g6.out; have := HG.out; omega))
 replace Hg8 := Aside0.mk (Hg8.out.but hT_q33 (by have := HXg5.out; have := HXg6.out; have := HXg7.out; have := HXg8.out; have := HXg9.out; have := HXg10.out; have := HXg11.out; have := HXg5g6.out; have := HG.out; omega))
 replace Hg9 := Aside0.mk (Hg9.out.but hT_q33 (by have := HXg5.out; have := HXg6.out; have := HXg7.out; have := HXg8.out; have := HXg9.out; have := HXg10.out; have := HXg11.out; have := HXg5g6.out; have := HG.out; omega))
 replace Hg10 := Aside0.mk (Hg10.out.but hT_q33 (by have := HXg5.out; have := HXg6.out; have := HXg7.out; have := HXg8.out; have := HXg9.out; have := HXg10.out; have := HXg11.out; have := HXg5g6.out; have := HG.out; omega))
 replace HF := Aside0.mk (HF.out.but hT_q33 (by have := HXg5.out; have := HXg6.out; have := HXg7.out; have := HXg8.out; have := HXg9.out; have := HXg10.out; have := HXg11.out; have := HXg5g6.out; have := HG.out; omega))
 have Hg11 := Aside0.mk hA_q33
 replace HB := Aside0.mk (bl_but HB.out hT_q33 HB.out.size (by have := HXg5.out; have := HXg6.out; have := HXg7.out; have := HXg8.out; have := HXg9.out; have := HXg10.out; have := HXg11.out; have := HXg5g6.out; have := HG.out; omega))
 replace HS := Aside0.mk (Nat.le_trans HS.out hT_q33.size)
 clear hA_q33 hT_q33 hzg11 hsg11 hHeld
 go_wp2_with (first | ((with_reducible refine gate_dst (N := 88) rfl ?_); refine ld_num (Hg9.out.range) rfl _ rfl rfl ?_) | ((with_reducible refine gate_dst (N := 89) rfl ?_); refine ld_num (Hg11.out.range) rfl _ rfl rfl ?_) | ((with_reducible refine gate_dst (N := 90) rfl ?_); refine ld_num (Hg10.out.range) rfl _ rfl rfl ?_) | ((with_reducible refine gate_dst (N := 91) rfl ?_); refine bd_th (p := t10) (q := t20) (r := t14) rfl _ rfl (.tmp 88) (.tmp 89) (.tmp 90) rfl rfl rfl rfl ?_) | ((with_reducible refine gate_st (y := .tmp 91) rfl ?_); (try simp only [aS]); refine st_th (x := t10) (y := t20) (z := t14) HR.out rfl _ _ rfl rfl rfl ?_; intro u34 hn_ hb_; replace HC := Aside0.mk (HC.out.but hb_ (by have := HXg5.out; have := HXg6.out; have := HXg7.out; have := HXg8.out; have := HXg9.out; have := HXg10.out; have := HXg11.out; have := HXg5g6.out; have := HG.out; omega)); replace HT := Aside0.mk (HT.out.but hb_ (by have := HXg5.out; have := HXg6.out; have := HXg7.out; have := HXg8.out; have := HXg9.out; have := HXg10.out; have := HXg11.out; have := HXg5g6.out; have := HG.out; omega)); replace Hg5 := Aside0.mk (Hg5.out.but hb_ (by have := HXg5.out; have := HXg6.out; have := HXg7.out; have := HXg8.out; have := HXg9.out; have := HXg10.out; have := HXg11.out; have := HXg5g6.out; have := HG.out; omega)); replace Hg6 := Aside0.mk (Hg6.out.but hb_ (by have := HXg5.out; have := HXg6.out; have := HXg7.out; have := HXg8.out; have := HXg9.out; have := HXg10.out; have := HXg11.out; have := HXg5g6.out; have := HG.out; omega)); replace Hg7 := Aside0.mk (Hg7.out.but hb_ (by have := HXg5.out; have := HXg6.out; have := HXg7.out; have := HXg8.out; have := HXg9.out; have := HXg10.out; have := HXg11.out; have := HXg5g6.out; have := HG.out; omega)); replace Hg8 := Aside0.mk (Hg8.out.but hb_ (by have := HXg5.out; have := HXg6.out; have := HXg7.out; have := HXg8.out; have := HXg9.out; have := HXg10.out; have := HXg11.out; have := HXg5g6.out; have := HG.out; omega)); replace Hg9 := Aside0.mk (Hg9.out.but hb_ (by have := HXg5.out; have := HXg6.out; have := HXg7.out; have := HXg8.out; have := HXg9.out; have := HXg10.out; have := HXg11.out; have := HXg5g6.out; have := HG.out; omega)); replace Hg10 := Aside0.mk (Hg10.out.but hb_ (by have := HXg5.out; have := HXg6.out; have := HXg7.out; have := HXg8.out; have := HXg9.out; have := HXg10.out; have := HXg11.out; have := HXg5g6.out; have := HG.out; omega)); replace Hg11 := Aside0.mk (Hg11.out.but hb_ (by have := HXg5.out; have := HXg6.out; have := HXg7.out; have := HXg8.out; have := HXg9.out; have := HXg10.out; have := HXg11.out; have := HXg5g6.out; have := HG.out; omega)); replace HF := Aside0.mk (HF.out.but hb_ (by have := HXg5.out; have := HXg6.out; have := HXg7.out; have := HXg8.out; have := HXg9.out; have := HXg10.out; have := HXg11.out; have := HXg5g6.out; have := HG.out; omega)); replace HR := Aside0.mk hn_; replace HB := Aside0.mk (bl_but HB.out hb_ HB.out.size (by have := HXg5.out; have := HXg6.out; have := HXg7.out; have := HXg8.out; have := HXg9.out; have := HXg10.out; have := HXg11.out; have := HXg5g6.out; have := HG.out; omega)); replace HS := Aside0.mk (Nat.le_trans HS.out hb_.size); clear hn_ hb_))
 exact bodyPost_ret (v := thV t10 t20 t14) (results_th rfl rfl HR.out) rfl ⟨rfl, HB.out⟩
end Go.Proofs.Ytkfjhndofbmhoaa
