/- What the proof of PointMultiples is made of, part 26. -/
import Derived.Test.YtkfjhndofbmhoaaZPointMultiples25
import Derived.Test.YtkfjhndofbmhoaaZPointMultiplesh
namespace Go.Proofs.Ytkfjhndofbmhoaa
open Go.RowKit Go.Proofs.Ytkfjhndofbmhoaa.Arr Go.Proofs.YtkfjhndofbmhoaaW.PrintWords Go.Proofs.YtkfjhndofbmhoaaW.PrintLast Go.Proofs.YtkfjhndofbmhoaaW.PrintMore
attribute [local go_sem high] eqg_num eqg_num0
set_option linter.unusedVariables false
set_option linter.unusedSimpArgs false
theorem pfar_true (x y : Nat) {z : Nat} (h : z = 0) (w : World) : Calls Try.prog 59 #[thV x y z] w fun e w' => e = .returned (.bool true) ∧ Below w.heap.size w w' := by
 have := pfar_calls x y z (by rw [h]; exact N256_pos) w
 rw [decide_eq_true h] at this
 exact this
theorem pfar_false (x y : Nat) {z : Nat} (h : z < pP ∧ z ≠ 0) (w : World) : Calls Try.prog 59 #[thV x y z] w fun e w' => e = .returned (.bool false) ∧ Below w.heap.size w w' := by
 have := pfar_calls x y z (lt_N h.1) w
 rw [decide_eq_false h.2] at this
 exact this
/-- the sum of two points by three numbers -/
def suJ (x1 y1 z1 x2 y2 z2 : Nat) : Nat × Nat × Nat :=
 if z1 = 0 then (x2, y2, z2) else if z2 = 0 then (x1, y1, z1) else
 let u := mmp x1 (mmp z2 z2)
 let v := mmp y1 (mmp (mmp z2 z2) z2)
 let h := msp (mmp x2 (mmp z1 z1)) u
 let r := msp (mmp y2 (mmp (mmp z1 z1) z1)) v
 if h = 0 then (if r = 0 then twJ x1 y1 z1 else (0, 0, 0)) else
 let x := msp (msp (mmp r r) (mmp (mmp h h) h)) (mmp (mmp u (mmp h h)) 2)
 (x, msp (mmp r (msp (mmp u (mmp h h)) x)) (mmp v (mmp (mmp h h) h)), mmp h (mmp z1 z2))
set_option maxRecDepth 100000 in
set_option maxHeartbeats 8000000 in
theorem psum_a {gf : Nat} {x1 y1 z1 x2 y2 z2 : Nat} (hz : z1 = 0) (w : World) (hF : CFld w gf) :
  Calls Try.prog 32 #[cvV gf, thV x1 y1 z1, thV x2 y2 z2] w fun e w' => e = .returned (thT (suJ x1 y1 z1 x2 y2 z2)) ∧ Below w.heap.size w w' := by
 have HG : Aside0 (gf < w.heap.size) := Aside0.mk hF.size
 have K1 := Aside0.mk (fun (u : World) => pfar_true x1 y1 hz u)
 have hres : suJ x1 y1 z1 x2 y2 z2 = (x2, y2, z2) := by unfold suJ; rw [if_pos hz]
 rw [hres]
 clear hres
 clear hz
 go_enter Try.func32, Try.ntmps32
 go_upto_region 1 with (fail)
 refine wp_at (w2 := (World.alloc (World.alloc (World.alloc (World.alloc w (.cells (cvl gf).toArray 58)) (.cells (hw3 x1 y1 z1).toArray 62)) (.cells (hw3 x2 y2 z2).toArray 62)) (.cells (hw3 0 0 0).toArray 62))) rfl ?_
 obtain ⟨x_0, e_0, h_0, b_0, s_0⟩ := new_CvAt w gf
 obtain ⟨x_1, e_1, h_1, b_1, s_1⟩ := new_ThAt x_0 x1 y1 z1
 obtain ⟨x_2, e_2, h_2, b_2, s_2⟩ := new_ThAt x_1 x2 y2 z2
 obtain ⟨x_3, e_3, h_3, b_3, s_3⟩ := new_ThAt x_2 0 0 0
 rw [e_0, e_1, e_2, e_3]
 rw [s_0] at h_1 s_1
 rw [s_1] at h_2 s_2
 rw [s_2] at h_3 s_3
 have HB : Aside0 (Below w.heap.size w x_3) := Aside0.mk (bl_both (bl_both (bl_both b_0 b_1) b_2) b_3)
 have HC : Aside0 (CvAt x_3 (w.heap.size) gf) := Aside0.mk (((h_0.on b_1).on b_2).on b_3)
 have HP1 : Aside0 (ThAt x_3 (w.heap.size + 1) x1 y1 z1) := Aside0.mk ((h_1.on b_2).on b_3)
 have HP2 : Aside0 (ThAt x_3 (w.heap.size + 1 + 1) x2 y2 z2) := Aside0.mk (h_2.on b_3)
 have HR : Aside0 (ThAt x_3 (w.heap.size + 1 + 1 + 1) 0 0 0) := Aside0.mk h_3
 have HS : Aside0 (w.heap.size + 1 + 1 + 1 + 1 ≤ x_3.heap.size) := Aside0.mk (Nat.le_of_eq s_3.symm)
 have HF := Aside0.mk (hF.on HB.out)
 clear e_0 h_0 b_0 s_0 e_1 h_1 b_1 s_1 e_2 h_2 b_2 s_2 e_3 h_3 b_3 s_3 hF
 obtain ⟨w1, hw_⟩ : ∃ x, x = x_3 := ⟨_, rfl⟩
 subst hw_
 clear x_0 x_1 x_2
 go_upto_region 2 with (first | ((with_reducible refine gate_dst (N := 19) rfl ?_); refine ld_th HP1.out rfl _ rfl rfl ?_) | ((with_reducible refine gate_dst (N := 20) rfl ?_); refine goesL_ (some 20) rfl rfl Try.func59 (by kernel_rfl) rfl #[thV x1 y1 z1] rfl (by (try simp only [List.map_toArray, List.map_cons, List.map_nil]); first | done | rfl) ?_; (with_reducible refine (K1.out _).mono ?_); rintro e u1 ⟨rfl, hb_⟩; refine ⟨_, rfl, ?_⟩; replace HC := Aside0.mk (HC.out.on hb_); replace HP1 := Aside0.mk (HP1.out.on hb_); replace HP2 := Aside0.mk (HP2.out.on hb_); replace HR := Aside0.mk (HR.out.on hb_); replace HF := Aside0.mk (HF.out.on hb_); replace HB := Aside0.mk (bl_on HB.out hb_ HB.out.size); replace HS := Aside0.mk (Nat.le_trans HS.out hb_.size); clear hb_))
 go_wp2_with (first | ((with_reducible refine gate_dst (N := 21) rfl ?_); refine ld_th HP2.out rfl _ rfl rfl ?_) | ((with_reducible refine gate_st (y := .tmp 21) rfl ?_); (try simp only [aS]); refine st_th (x := x2) (y := y2) (z := z2) HR.out rfl _ _ rfl rfl rfl ?_; intro u2 hn_ hb_; replace HC := Aside0.mk (HC.out.but hb_ (by have := HG.out; omega)); replace HP1 := Aside0.mk (HP1.out.but hb_ (by have := HG.out; omega)); replace HP2 := Aside0.mk (HP2.out.but hb_ (by have := HG.out; omega)); replace HF := Aside0.mk (HF.out.but hb_ (by have := HG.out; omega)); replace HR := Aside0.mk hn_; replace HB := Aside0.mk (bl_but HB.out hb_ HB.out.size (by have := HG.out; omega)); replace HS := Aside0.mk (Nat.le_trans HS.out hb_.size); clear hn_ hb_))
 exact bodyPost_ret (v := thV x2 y2 z2) (results_th rfl rfl HR.out) rfl ⟨rfl, HB.out⟩
set_option maxRecDepth 100000 in
set_option maxHeartbeats 8000000 in
theorem psum_b {gf : Nat} {x1 y1 z1 x2 y2 z2 : Nat} (b_z1 : z1 < pP) (hz1 : z1 ≠ 0) (hz2 : z2 = 0) (w : World) (hF : CFld w gf) :
  Calls Try.prog 32 #[cvV gf, thV x1 y1 z1, thV x2 y2 z2] w fun e w' => e = .returned (thT (suJ x1 y1 z1 x2 y2 z2)) ∧ Below w.heap.size w w' := by
 have HG : Aside0 (gf < w.heap.size) := Aside0.mk hF.size
 have K1 := Aside0.mk (fun (u : World) => pfar_false x1 y1 ⟨b_z1, hz1⟩ u)
 have K2 := Aside0.mk (fun (u : World) => pfar_true x2 y2 hz2 u)
 have hres : suJ x1 y1 z1 x2 y2 z2 = (x1, y1, z1) := by unfold suJ; rw [if_neg hz1, if_pos hz2]
 rw [hres]
 clear hres
 clear b_z1 hz1 hz2
 go_enter Try.func32, Try.ntmps32
 go_upto_region 1 with (fail)
 refine wp_at (w2 := (World.alloc (World.alloc (World.alloc (World.alloc w (.cells (cvl gf).toArray 58)) (.cells (hw3 x1 y1 z1).toArray 62)) (.cells (hw3 x2 y2 z2).toArray 62)) (.cells (hw3 0 0 0).toArray 62))) rfl ?_
 obtain ⟨x_0, e_0, h_0, b_0, s_0⟩ := new_CvAt w gf
 obtain ⟨x_1, e_1, h_1, b_1, s_1⟩ := new_ThAt x_0 x1 y1 z1
 obtain ⟨x_2, e_2, h_2, b_2, s_2⟩ := new_ThAt x_1 x2 y2 z2
 obtain ⟨x_3, e_3, h_3, b_3, s_3⟩ := new_ThAt x_2 0 0 0
 rw [e_0, e_1, e_2, e_3]
 rw [s_0] at h_1 s_1
 rw [s_1] at h_2 s_2
 rw [s_2] at h_3 s_3
 have HB : Aside0 (Below w.heap.size w x_3) := Aside0.mk (bl_both (bl_both (bl_both b_0 b_1) b_2) b_3)
 have HC : Aside0 (CvAt x_3 (w.heap.size) gf) := Aside0.mk (((h_0.on b_1).on b_2).on b_3)
 have HP1 : Aside0 (ThAt x_3 (w.heap.size + 1) x1 y1 z1) := Aside0.mk ((h_1.on b_2).on b_3)
 have HP2 : Aside0 (ThAt x_3 (w.heap.size + 1 + 1) x2 y2 z2) := Aside0.mk (h_2.on b_3)
 have HR : Aside0 (ThAt x_3 (w.heap.size + 1 + 1 + 1) 0 0 0) := Aside0.mk h_3
 have HS : Aside0 (w.heap.size + 1 + 1 + 1 + 1 ≤ x_3.heap.size) := Aside0.mk (Nat.le_of_eq s_3.symm)
 have HF := Aside0.mk (hF.on HB.out)
 clear e_0 h_0 b_0 s_0 e_1 h_1 b_1 s_1 e_2 h_2 b_2 s_2 e_3 h_3 b_3 s_3 hF
 obtain ⟨w1, hw_⟩ : ∃ x, x = x_3 := ⟨_, rfl⟩
 subst hw_
 clear x_0 x_1 x_2
 go_upto_region 3 with (first | ((with_reducible refine gate_dst (N := 19) rfl ?_); refine ld_th HP1.out rfl _ rfl rfl ?_) | ((with_reducible refine gate_dst (N := 20) rfl ?_); refine goesL_ (some 20) rfl rfl Try.func59 (by kernel_rfl) rfl #[thV x1 y1 z1] rfl (by (try simp only [List.map_toArray, List.map_cons, List.map_nil]); first | done | rfl) ?_; (with_reducible refine (K1.out _).mono ?_); rintro e u3 ⟨rfl, hb_⟩; refine ⟨_, rfl, ?_⟩; replace HC := Aside0.mk (HC.out.on hb_); replace HP1 := Aside0.mk (HP1.out.on hb_); replace HP2 := Aside0.mk (HP2.out.on hb_); replace HR := Aside0.mk (HR.out.on hb_); replace HF := Aside0.mk (HF.out.on hb_); replace HB := Aside0.mk (bl_on HB.out hb_ HB.out.size); replace HS := Aside0.mk (Nat.le_trans HS.out hb_.size); clear hb_))
 go_upto_region 4 with (first | ((with_reducible refine gate_dst (N := 23) rfl ?_); refine ld_th HP2.out rfl _ rfl rfl ?_) | ((with_reducible refine gate_dst (N := 24) rfl ?_); refine goesL_ (some 24) rfl rfl Try.func59 (by kernel_rfl) rfl #[thV x2 y2 z2] rfl (by (try simp only [List.map_toArray, List.map_cons, List.map_nil]); first | done | rfl) ?_; (with_reducible refine (K2.out _).mono ?_); rintro e u4 ⟨rfl, hb_⟩; refine ⟨_, rfl, ?_⟩; replace HC := Aside0.mk (HC.out.on hb_); replace HP1 := Aside0.mk (HP1.out.on hb_); replace HP2 := Aside0.mk (HP2.out.on hb_); replace HR := Aside0.mk (HR.out.on hb_); replace HF := Aside0.mk (HF.out.on hb_); replace HB := Aside0.mk (bl_on HB.out hb_ HB.out.size); replace HS := Aside0.mk (Nat.le_trans HS.out hb_.size); clear hb_))
 go_wp2_with (first | ((with_reducible refine gate_dst (N := 25) rfl ?_); refine ld_th HP1.out rfl _ rfl rfl ?_) | ((with_reducible refine gate_st (y := .tmp 25) rfl ?_); (try simp only [aS]); refine st_th (x := x1) (y := y1) (z := z1) HR.out rfl _ _ rfl rfl rfl ?_; intro u5 hn_ hb_; replace HC := Aside0.mk (HC.out.but hb_ (by have := HG.out; omega)); replace HP1 := Aside0.mk (HP1.out.but hb_ (by have := HG.out; omega)); replace HP2 := Aside0.mk (HP2.out.but hb_ (by have := HG.out; omega)); replace HF := Aside0.mk (HF.out.but hb_ (by have := HG.out; omega)); replace HR := Aside0.mk hn_; replace HB := Aside0.mk (bl_but HB.out hb_ HB.out.size (by have := HG.out; omega)); replace HS := Aside0.mk (Nat.le_trans HS.out hb_.size); clear hn_ hb_))
 exact bodyPost_ret (v := thV x1 y1 z1) (results_th rfl rfl HR.out) rfl ⟨rfl, HB.out⟩
theorem eql_is0 {n : Nat} (h : n < N256) (h0 : n = 0) (w : World) : (binOp .eql 24 (numV n) (.agg #[.int .u64 0, .int .u64 0, .int .u64 0, .int .u64 0])).run Try.prog w = .ok (.bool true) w := by
 rw [eql_zero h w, decide_eq_true h0]
theorem eql_not0 {n : Nat} (h : n < N256) (h0 : ¬ n = 0) (w : World) : (binOp .eql 24 (numV n) (.agg #[.int .u64 0, .int .u64 0, .int .u64 0, .int .u64 0])).run Try.prog w = .ok (.bool false) w := by
 rw [eql_zero h w, decide_eq_false h0]
set_option maxRecDepth 100000 in
set_option maxHeartbeats 8000000 in
theorem psum_c {gf : Nat} {x1 y1 z1 x2 y2 z2 : Nat} (b_x1 : x1 < pP) (b_y1 : y1 < pP) (b_z1 : z1 < pP) (b_x2 : x2 < pP) (b_y2 : y2 < pP) (b_z2 : z2 < pP) (hz1 : z1 ≠ 0) (hz2 : z2 ≠ 0) (w : World) (hF : CFld w gf) :
  Calls Try.prog 32 #[cvV gf, thV x1 y1 z1, thV x2 y2 z2] w fun e w' => e = .returned (thT (suJ x1 y1 z1 x2 y2 z2)) ∧ Below w.heap.size w w' := by
 have HG : Aside0 (gf < w.heap.size) := Aside0.mk hF.size
 obtain ⟨t1, e_t1⟩ : ∃ t, t = z1 * z1 % pP := ⟨_, rfl⟩
 have b_t1 : t1 < pP := by rw [e_t1]; exact mod_p _
 obtain ⟨t2, e_t2⟩ : ∃ t, t = z2 * z2 % pP := ⟨_, rfl⟩
 have b_t2 : t2 < pP := by rw [e_t2]; exact mod_p _
 obtain ⟨t3, e_t3⟩ : ∃ t, t = x1 * t2 % pP := ⟨_, rfl⟩
 have b_t3 : t3 < pP := by rw [e_t3]; exact mod_p _
 obtain ⟨t4, e_t4⟩ : ∃ t, t = x2 * t1 % pP := ⟨_, rfl⟩
 have b_t4 : t4 < pP := by rw [e_t4]; exact mod_p _
 obtain ⟨t5, e_t5⟩ : ∃ t, t = t2 * z2 % pP := ⟨_, rfl⟩
 have b_t5 : t5 < pP := by rw [e_t5]; exact mod_p _
 obtain ⟨t6, e_t6⟩ : ∃ t, t = y1 * t5 % pP := ⟨_, rfl⟩
 have b_t6 : t6 < pP := by rw [e_t6]; exact mod_p _
 obtain ⟨t7, e_t7⟩ : ∃ t, t = t1 * z1 % pP := ⟨_, rfl⟩
 have b_t7 : t7 < pP := by rw [e_t7]; exact mod_p _
 obtain ⟨t8, e_t8⟩ : ∃ t, t = y2 * t7 % pP := ⟨_, rfl⟩
 have b_t8 : t8 < pP := by rw [e_t8]; exact mod_p _
 obtain ⟨t9, e_t9⟩ : ∃ t, t = (t4 + pP - t3) % pP := ⟨_, rfl⟩
 have b_t9 : t9 < pP := by rw [e_t9]; exact mod_p _
 obtain ⟨t10, e_t10⟩ : ∃ t, t = (t8 + pP - t6) % pP := ⟨_, rfl⟩
 have b_t10 : t10 < pP := by rw [e_t10]; exact mod_p _
 obtain ⟨t11, e_t11⟩ : ∃ t, t = t9 * t9 % pP := ⟨_, rfl⟩
 have b_t11 : t11 < pP := by rw [e_t11]; exact mod_p _
 obtain ⟨t12, e_t12⟩ : ∃ t, t = t11 * t9 % pP := ⟨_, rfl⟩
 have b_t12 : t12 < pP := by rw [e_t12]; exact mod_p _
 obtain ⟨t13, e_t13⟩ : ∃ t, t = t3 * t11 % pP := ⟨_, rfl⟩
 have b_t13 : t13 < pP := by rw [e_t13]; exact mod_p _
 obtain ⟨t14, e_t14⟩ : ∃ t, t = t10 * t10 % pP := ⟨_, rfl⟩
 have b_t14 : t14 < pP := by rw [e_t14]; exact mod_p _
 obtain ⟨t15, e_t15⟩ : ∃ t, t = (t14 + pP - t12) % pP := ⟨_, rfl⟩
 have b_t15 : t15 < pP := by rw [e_t15]; exact mod_p _
 obtain ⟨t16, e_t16⟩ : ∃ t, t = t13 * 2 % pP := ⟨_, rfl⟩
 have b_t16 : t16 < pP := by rw [e_t16]; exact mod_p _
 obtain ⟨t17, e_t17⟩ : ∃ t, t = (t15 + pP - t16) % pP := ⟨_, rfl⟩
 have b_t17 : t17 < pP := by rw [e_t17]; exact mod_p _
 obtain ⟨t18, e_t18⟩ : ∃ t, t = (t13 + pP - t17) % pP := ⟨_, rfl⟩
 have b_t18 : t18 < pP := by rw [e_t18]; exact mod_p _
 obtain ⟨t19, e_t19⟩ : ∃ t, t = t10 * t18 % pP := ⟨_, rfl⟩
 have b_t19 : t19 < pP := by rw [e_t19]; exact mod_p _
 obtain ⟨t20, e_t20⟩ : ∃ t, t = t6 * t12 % pP := ⟨_, rfl⟩
 have b_t20 : t20 < pP := by rw [e_t20]; exact mod_p _
 obtain ⟨t21, e_t21⟩ : ∃ t, t = (t19 + pP - t20) % pP := ⟨_, rfl⟩
 have b_t21 : t21 < pP := by rw [e_t21]; exact mod_p _
 obtain ⟨t22, e_t22⟩ : ∃ t, t = z1 * z2 % pP := ⟨_, rfl⟩
 have b_t22 : t22 < pP := by rw [e_t22]; exact mod_p _
 obtain ⟨t23, e_t23⟩ : ∃ t, t = t9 * t22 % pP := ⟨_, rfl⟩
 have b_t23 : t23 < pP := by rw [e_t23]; exact mod_p _
 have K1 := Aside0.mk (fun (u : World) => pfar_false x1 y1 ⟨b_z1, hz1⟩ u)
 have K2 := Aside0.mk (fun (u : World) => pfar_false x2 y2 ⟨b_z2, hz2⟩ u)
 have K3 := Aside0.mk (fun (u : World) (h : CFld u gf) => psquare_calls b_z1 u h)
 have K4 := Aside0.mk (fun (u : World) (h : CFld u gf) => psquare_calls b_z2 u h)
 have K5 := Aside0.mk (fun (u : World) (h : CFld u gf) => pmul_calls b_x1 b_t2 u h)
 have K6 := Aside0.mk (fun (u : World) (h : CFld u gf) => pmul_calls b_x2 b_t1 u h)
 have K7 := Aside0.mk (fun (u : World) (h : CFld u gf) => pmul_calls b_t2 b_z2 u h)
 have K8 := Aside0.mk (fun (u : World) (h : CFld u gf) => pmul_calls b_y1 b_t5 u h)
 have K9 := Aside0.mk (fun (u : World) (h : CFld u gf) => pmul_calls b_t1 b_z1 u h)
 have K10 := Aside0.mk (fun (u : World) (h : CFld u gf) => pmul_calls b_y2 b_t7 u h)
 have K11 := Aside0.mk (fun (u : World) (h : CFld u gf) => psub_calls b_t4 b_t3 u h)
 have K12 := Aside0.mk (fun (u : World) (h : CFld u gf) => psub_calls b_t8 b_t6 u h)
 have K13 := Aside0.mk (fun (u : World) (h : CFld u gf) => ptwice_calls b_x1 b_y1 b_z1 u h)
 have K14 := Aside0.mk (fun (u : World) (h : CFld u gf) => psquare_calls b_t9 u h)
 have K15 := Aside0.mk (fun (u : World) (h : CFld u gf) => pmul_calls b_t11 b_t9 u h)
 have K16 := Aside0.mk (fun (u : World) (h : CFld u gf) => pmul_calls b_t3 b_t11 u h)
 have K17 := Aside0.mk (fun (u : World) (h : CFld u gf) => psquare_calls b_t10 u h)
 have K18 := Aside0.mk (fun (u : World) (h : CFld u gf) => psub_calls b_t14 b_t12 u h)
 have K19 := Aside0.mk (fun (u : World) (h : CFld u gf) => ptimes_calls b_t13 (show 2 < pP by decide +kernel) (by decide) u h)
 have K20 := Aside0.mk (fun (u : World) (h : CFld u gf) => psub_calls b_t15 b_t16 u h)
 have K21 := Aside0.mk (fun (u : World) (h : CFld u gf) => psub_calls b_t13 b_t17 u h)
 have K22 := Aside0.mk (fun (u : World) (h : CFld u gf) => pmul_calls b_t10 b_t18 u h)
 have K23 := Aside0.mk (fun (u : World) (h : CFld u gf) => pmul_calls b_t6 b_t12 u h)
 have K24 := Aside0.mk (fun (u : World) (h : CFld u gf) => psub_calls b_t19 b_t20 u h)
 have K25 := Aside0.mk (fun (u : World) (h : CFld u gf) => pmul_calls b_z1 b_z2 u h)
 have K26 := Aside0.mk (fun (u : World) (h : CFld u gf) => pmul_calls b_t9 b_t22 u h)
 rw [← e_t1] at K3
 rw [← e_t2] at K4
 rw [← e_t3] at K5
 rw [← e_t4] at K6
 rw [← e_t5] at K7
 rw [← e_t6] at K8
 rw [← e_t7] at K9
 rw [← e_t8] at K10
 rw [← e_t9] at K11
 rw [← e_t10] at K12
 rw [← e_t11] at K14
 rw [← e_t12] at K15
 rw [← e_t13] at K16
 rw [← e_t14] at K17
 rw [← e_t15] at K18
 rw [← e_t16] at K19
 rw [← e_t17] at K20
 rw [← e_t18] at K21
 rw [← e_t19] at K22
 rw [← e_t20] at K23
 rw [← e_t21] at K24
 rw [← e_t22] at K25
 rw [← e_t23] at K26
 have R1 : Aside0 (t9 = 0 → t10 = 0 → suJ x1 y1 z1 x2 y2 z2 = twJ x1 y1 z1) := Aside0.mk (by
  intro k0 k1
  unfold suJ
  rw [if_neg hz1, if_neg hz2]
  subst e_t1 e_t2 e_t3 e_t4 e_t5 e_t6 e_t7 e_t8 e_t9 e_t10 e_t11 e_t12 e_t13 e_t14 e_t15 e_t16 e_t17 e_t18 e_t19 e_t20 e_t21 e_t22 e_t23
  exact (if_pos k0).trans (if_pos k1))
 have R2 : Aside0 (t9 = 0 → ¬ t10 = 0 → suJ x1 y1 z1 x2 y2 z2 = (0, 0, 0)) := Aside0.mk (by
  intro k0 k1
  unfold suJ
  rw [if_neg hz1, if_neg hz2]
  subst e_t1 e_t2 e_t3 e_t4 e_t5 e_t6 e_t7 e_t8 e_t9 e_t10 e_t11 e_t12 e_t13 e_t14 e_t15 e_t16 e_t17 e_t18 e_t19 e_t20 e_t21 e_t22 e_t23
  exact (if_pos k0).trans (if_neg k1))
 have R3 : Aside0 (¬ t9 = 0 → suJ x1 y1 z1 x2 y2 z2 = (t17, t21, t23)) := Aside0.mk (by
  intro k0
  unfold suJ
  rw [if_neg hz1, if_neg hz2]
  subst e_t1 e_t2 e_t3 e_t4 e_t5 e_t6 e_t7 e_t8 e_t9 e_t10 e_t11 e_t12 e_t13 e_t14 e_t15 e_t16 e_t17 e_t18 e_t19 e_t20 e_t21 e_t22 e_t23
  exact if_neg k0)
 have BN_t9 : Aside0 (t9 < N256) := Aside0.mk (lt_N b_t9)
 have BN_t10 : Aside0 (t10 < N256) := Aside0.mk (lt_N b_t10)
 clear e_t1 e_t2 e_t3 e_t4 e_t5 e_t6 e_t7 e_t8 e_t9 e_t10 e_t11 e_t12 e_t13 e_t14 e_t15 e_t16 e_t17 e_t18 e_t19 e_t20 e_t21 e_t22 e_t23 b_t1 b_t2 b_t3 b_t4 b_t5 b_t6 b_t7 b_t8 b_t9 b_t10 b_t11 b_t12 b_t13 b_t14 b_t15 b_t16 b_t17 b_t18 b_t19 b_t20 b_t21 b_t22 b_t23 b_x1 b_y1 b_z1 b_x2 b_y2 b_z2 hz1 hz2
 go_enter Try.func32, Try.ntmps32
 go_upto_region 1 with (fail)
 refine wp_at (w2 := (World.alloc (World.alloc (World.alloc (World.alloc w (.cells (cvl gf).toArray 58)) (.cells (hw3 x1 y1 z1).toArray 62)) (.cells (hw3 x2 y2 z2).toArray 62)) (.cells (hw3 0 0 0).toArray 62))) rfl ?_
 obtain ⟨x_0, e_0, h_0, b_0, s_0⟩ := new_CvAt w gf
 obtain ⟨x_1, e_1, h_1, b_1, s_1⟩ := new_ThAt x_0 x1 y1 z1
 obtain ⟨x_2, e_2, h_2, b_2, s_2⟩ := new_ThAt x_1 x2 y2 z2
 obtain ⟨x_3, e_3, h_3, b_3, s_3⟩ := new_ThAt x_2 0 0 0
 rw [e_0, e_1, e_2, e_3]
 rw [s_0] at h_1 s_1
 rw [s_1] at h_2 s_2
 rw [s_2] at h_3 s_3
 have HB : Aside0 (Below w.heap.size w x_3) := Aside0.mk (bl_both (bl_both (bl_both b_0 b_1) b_2) b_3)
 have HC : Aside0 (CvAt x_3 (w.heap.size) gf) := Aside0.mk (((h_0.on b_1).on b_2).on b_3)
 have HP1 : Aside0 (ThAt x_3 (w.heap.size + 1) x1 y1 z1) := Aside0.mk ((h_1.on b_2).on b_3)
 have HP2 : Aside0 (ThAt x_3 (w.heap.size + 1 + 1) x2 y2 z2) := Aside0.mk (h_2.on b_3)
 have HR : Aside0 (ThAt x_3 (w.heap.size + 1 + 1 + 1) 0 0 0) := Aside0.mk h_3
 have HS : Aside0 (w.heap.size + 1 + 1 + 1 + 1 ≤ x_3.heap.size) := Aside0.mk (Nat.le_of_eq s_3.symm)
 have HF := Aside0.mk (hF.on HB.out)
 clear e_0 h_0 b_0 s_0 e_1 h_1 b_1 s_1 e_2 h_2 b_2 s_2 e_3 h_3 b_3 s_3 hF
 obtain ⟨w1, hw_⟩ : ∃ x, x = x_3 := ⟨_, rfl⟩
 subst hw_
 clear x_0 x_1 x_2
 go_upto_region 3 with (first | ((with_reducible refine gate_dst (N := 19) rfl ?_); refine ld_th HP1.out rfl _ rfl rfl ?_) | ((with_reducible refine gate_dst (N := 20) rfl ?_); refine goesL_ (some 20) rfl rfl Try.func59 (by kernel_rfl) rfl #[thV x1 y1 z1] rfl (by (try simp only [List.map_toArray, List.map_cons, List.map_nil]); first | done | rfl) ?_; (with_reducible refine (K1.out _).mono ?_); rintro e u6 ⟨rfl, hb_⟩; refine ⟨_, rfl, ?_⟩; replace HC := Aside0.mk (HC.out.on hb_); replace HP1 := Aside0.mk (HP1.out.on hb_); replace HP2 := Aside0.mk (HP2.out.on hb_); replace HR := Aside0.mk (HR.out.on hb_); replace HF := Aside0.mk (HF.out.on hb_); replace HB := Aside0.mk (bl_on HB.out hb_ HB.out.size); replace HS := Aside0.mk (Nat.le_trans HS.out hb_.size); clear hb_))
 go_upto_region 5 with (first | ((with_reducible refine gate_dst (N := 23) rfl ?_); refine ld_th HP2.out rfl _ rfl rfl ?_) | ((with_reducible refine gate_dst (N := 24) rfl ?_); refine goesL_ (some 24) rfl rfl Try.func59 (by kernel_rfl) rfl #[thV x2 y2 z2] rfl (by (try simp only [List.map_toArray, List.map_cons, List.map_nil]); first | done | rfl) ?_; (with_reducible refine (K2.out _).mono ?_); rintro e u7 ⟨rfl, hb_⟩; refine ⟨_, rfl, ?_⟩; replace HC := Aside0.mk (HC.out.on hb_); replace HP1 := Aside0.mk (HP1.out.on hb_); replace HP2 := Aside0.mk (HP2.out.on hb_); replace HR := Aside0.mk (HR.out.on hb_); replace HF := Aside0.mk (HF.out.on hb_); replace HB := Aside0.mk (bl_on HB.out hb_ HB.out.size); replace HS := Aside0.mk (Nat.le_trans HS.out hb_.size); clear hb_))
 refine start_ (n := 12) (S := fun w' => Below u7.heap.size u7 w') (ds := [11]) (bs 12 0) (by kernel_rfl) rfl rfl ((Below.refl _ _).drew) (fun hHeld => ?_)
 refine pu_ 1 27 (bs 12 2) ?_ ?_ ?_ ?_ ?_
 rotate_left
 ·intro w'
  go_simp
  with_reducible rfl
 rotate_left
 ·simp only [aS, i64_w, i32_w]
  rfl
 refine pu_ 5 31 (bs 12 34) ?_ ?_ ?_ ?_ ?_
 rotate_left
 ·intro w'
  go_simp
  with_reducible rfl
 rotate_left
 ·simp only [aS, i64_w, i32_w]
  rfl
 refine take_ (i := 0) (N := some 26) (a' := ?_) (bs 12 35) rfl rfl (by kernel_rfl) (fun _ _ _ h => h) (yieldsIf_load_mid (by rfl) 58 (.tmp 3) rfl w.heap.size 0 rfl ((cvl gf)) _ (fun w' hS => (HC.out.on hS).range) rfl rfl (rfl)) hHeld ?_ ?_
 rotate_left
 ·simp only [aS, i64_w, i32_w]
  rfl
 refine take_ (i := 2) (N := some 28) (a' := ?_) (bs 12 39) rfl rfl (by kernel_rfl) (fun _ _ _ h => h) (yields_num (g := w.heap.size + 1) (o := 8) (n := z1) (by rfl) (.tmp 27) rfl rfl (fun w' hS => (HP1.out.on hS).rz)) hHeld ?_ ?_
 rotate_left
 ·simp only [aS, i64_w, i32_w]
  rfl
 refine take_ (i := 4) (N := some 30) (a' := ?_) (bs 12 55) rfl rfl (by kernel_rfl) (fun _ _ _ h => h) (yieldsIf_load_mid (by rfl) 58 (.tmp 3) rfl w.heap.size 0 rfl ((cvl gf)) _ (fun w' hS => (HC.out.on hS).range) rfl rfl (rfl)) hHeld ?_ ?_
 rotate_left
 ·simp only [aS, i64_w, i32_w]
  rfl
 refine take_ (i := 6) (N := some 32) (a' := ?_) (bs 12 119) rfl rfl (by kernel_rfl) (fun _ _ _ h => h) (yields_num (g := w.heap.size + 1 + 1) (o := 8) (n := z2) (by rfl) (.tmp 31) rfl rfl (fun w' hS => (HP2.out.on hS).rz)) hHeld ?_ ?_
 rotate_left
 ·simp only [aS, i64_w, i32_w]
  rfl
 refine join_ (σ := Nat × Nat) 2 (bs 12 1023) (fun s => [(7, .pointer (some ⟨s.1, 0, none⟩)), (8, .pointer (some ⟨s.2, 0, none⟩)), (29, numV t1), (33, numV t2)]) (fun s w' => Below u7.heap.size u7 w' ∧ NAt w' s.1 0 ∧ u7.heap.size ≤ s.1 ∧ NAt w' s.2 0 ∧ u7.heap.size ≤ s.2 ∧ s.1 ≠ s.2) ?_ ?_
 rotate_left
 ·intro hCont
  refine three_ (i := 3) (j := 8) (k := 9) (Ni := some 29) (Nj := some 7) (Nk := some 8) (bs 12 127) (bs 12 375) (bs 12 631) rfl rfl rfl rfl rfl rfl (by kernel_rfl) (by decide) (by decide) (by decide) (fun K hK => ?_) (fun K hK => ?_) (fun K hK => ?_)
  ·skip
   refine gs_ Try.func55 #[cvV gf, numV z1] rfl ?_
   with_reducible refine (K3.out _ (HF.out.on hHeld)).mono ?_
   rintro e u8 ⟨rfl, hb_u8⟩
   refine ⟨_, rfl, ?_⟩
   have hq_u8 := bl_on hHeld hb_u8 hHeld.size
   refine hK.out _ _ (hq_u8) (fun hHeld => ?_)
   clear hK K
   refine nm_ (some 29) ?_
   refine three_ (i := 7) (j := 8) (k := 9) (Ni := some 33) (Nj := some 7) (Nk := some 8) (bs 12 255) (bs 12 383) (bs 12 639) rfl rfl rfl rfl rfl rfl (by kernel_rfl) (by decide) (by decide) (by decide) (fun K hK => ?_) (fun K hK => ?_) (fun K hK => ?_)
   ·skip
    refine gs_ Try.func55 #[cvV gf, numV z2] rfl ?_
    with_reducible refine (K4.out _ (HF.out.on hHeld)).mono ?_
    rintro e u9 ⟨rfl, hb_u9⟩
    refine ⟨_, rfl, ?_⟩
    have hq_u9 := bl_on hHeld hb_u9 hHeld.size
    refine hK.out _ _ (hq_u9) (fun hHeld => ?_)
    clear hK K
    refine nm_ (some 33) ?_
    refine tw_ 8 9 (some 7) (some 8) (bs 12 511) (bs 12 767) rfl rfl (fun K hK => ?_) (fun K hK => ?_)
    ·skip
     refine value_ (w1 := ?_) (v := ?_) (by rfl) rfl ?_ ?_
     rotate_left 2
     ·go_simp
      constructor
      ·rfl
      ·rfl
     have hzg7 : NAt (World.alloc u9 (.cells (nw 0).toArray 24)) (u9.heap.size) 0 := by have h_ := Row.new u9 24 (nw 0); first | exact h_ | (simp only [alloc_sz] at h_; exact h_) | omega
     have hsg7 : u7.heap.size ≤ u9.heap.size := by have h_ := hHeld.size; first | exact h_ | (simp only [alloc_sz] at h_; exact h_) | omega
     refine hK.out _ _ (below_alloc hHeld _) (fun hHeld => ?_)
     clear hK K
     refine nm_ (some 7) ?_
     refine on1_ 9 (some 8) (bs 12 1023) rfl fun K hK => ?_
     refine value_ (w1 := ?_) (v := ?_) (by rfl) rfl ?_ ?_
     rotate_left 2
     ·go_simp
      constructor
      ·rfl
      ·rfl
     have hzg8 : NAt (World.alloc (World.alloc u9 (.cells (nw 0).toArray 24)) (.cells (nw 0).toArray 24)) (u9.heap.size + 1) 0 := by have h_ := Row.new (World.alloc u9 (.cells (nw 0).toArray 24)) 24 (nw 0); first | exact h_ | (simp only [alloc_sz] at h_; exact h_) | omega
     have hsg8 : u7.heap.size ≤ u9.heap.size + 1 := by have h_ := hHeld.size; first | exact h_ | (simp only [alloc_sz] at h_; exact h_) | omega
     have hng7g8 : u9.heap.size < u9.heap.size + 1 := by have h_ := hzg7.size; first | exact h_ | (simp only [alloc_sz] at h_; exact h_) | omega
     replace hzg7 := hzg7.on (below_alloc (Below.refl _ (World.alloc u9 (.cells (nw 0).toArray 24))) (.cells (nw 0).toArray 24))
     refine hK.out _ _ (below_alloc hHeld _) (fun hHeld => ?_)
     clear hK K
     refine nm_ (some 8) ?_
     exact norm_ (by simp only [putAll, aS]) (hCont (u9.heap.size, u9.heap.size + 1) _ ⟨hHeld, hzg7, hsg7, hzg8, hsg8, Nat.ne_of_lt hng7g8⟩)
    ·skip
     refine value_ (w1 := ?_) (v := ?_) (by rfl) rfl ?_ ?_
     rotate_left 2
     ·go_simp
      constructor
      ·rfl
      ·rfl
     have hzg8 : NAt (World.alloc u9 (.cells (nw 0).toArray 24)) (u9.heap.size) 0 := by have h_ := Row.new u9 24 (nw 0); first | exact h_ | (simp only [alloc_sz] at h_; exact h_) | omega
     have hsg8 : u7.heap.size ≤ u9.heap.size := by have h_ := hHeld.size; first | exact h_ | (simp only [alloc_sz] at h_; exact h_) | omega
     refine hK.out _ _ (below_alloc hHeld _) (fun hHeld => ?_)
     clear hK K
     refine nm_ (some 8) ?_
     refine on1_ 8 (some 7) (bs 12 1023) rfl fun K hK => ?_
     refine value_ (w1 := ?_) (v := ?_) (by rfl) rfl ?_ ?_
     rotate_left 2
     ·go_simp
      constructor
      ·rfl
      ·rfl
     have hzg7 : NAt (World.alloc (World.alloc u9 (.cells (nw 0).toArray 24)) (.cells (nw 0).toArray 24)) (u9.heap.size + 1) 0 := by have h_ := Row.new (World.alloc u9 (.cells (nw 0).toArray 24)) 24 (nw 0); first | exact h_ | (simp only [alloc_sz] at h_; exact h_) | omega
     have hsg7 : u7.heap.size ≤ u9.heap.size + 1 := by have h_ := hHeld.size; first | exact h_ | (simp only [alloc_sz] at h_; exact h_) | omega
     have hng8g7 : u9.heap.size < u9.heap.size + 1 := by have h_ := hzg8.size; first | exact h_ | (simp only [alloc_sz] at h_; exact h_) | omega
     replace hzg8 := hzg8.on (below_alloc (Below.refl _ (World.alloc u9 (.cells (nw 0).toArray 24))) (.cells (nw 0).toArray 24))
     refine hK.out _ _ (below_alloc hHeld _) (fun hHeld => ?_)
     clear hK K
     refine nm_ (some 7) ?_
     exact norm_ (by simp only [putAll, aS]) (hCont (u9.heap.size + 1, u9.heap.size) _ ⟨hHeld, hzg7, hsg7, hzg8, hsg8, Nat.ne_of_gt hng8g7⟩)
   ·skip
    refine value_ (w1 := ?_) (v := ?_) (by rfl) rfl ?_ ?_
    rotate_left 2
    ·go_simp
     constructor
     ·rfl
     ·rfl
    have hzg7 : NAt (World.alloc u8 (.cells (nw 0).toArray 24)) (u8.heap.size) 0 := by have h_ := Row.new u8 24 (nw 0); first | exact h_ | (simp only [alloc_sz] at h_; exact h_) | omega
    have hsg7 : u7.heap.size ≤ u8.heap.size := by have h_ := hHeld.size; first | exact h_ | (simp only [alloc_sz] at h_; exact h_) | omega
    refine hK.out _ _ (below_alloc hHeld _) (fun hHeld => ?_)
    clear hK K
    refine nm_ (some 7) ?_
    refine tw_ 7 9 (some 33) (some 8) (bs 12 511) (bs 12 895) rfl rfl (fun K hK => ?_) (fun K hK => ?_)
    ·skip
     refine gs_ Try.func55 #[cvV gf, numV z2] rfl ?_
     with_reducible refine (K4.out _ (HF.out.on hHeld)).mono ?_
     rintro e u9 ⟨rfl, hb_u9⟩
     refine ⟨_, rfl, ?_⟩
     have hq_u9 := bl_on hHeld hb_u9 hHeld.size
     replace hzg7 := hzg7.on hb_u9
     refine hK.out _ _ (hq_u9) (fun hHeld => ?_)
     clear hK K
     refine nm_ (some 33) ?_
     refine on1_ 9 (some 8) (bs 12 1023) rfl fun K hK => ?_
     refine value_ (w1 := ?_) (v := ?_) (by rfl) rfl ?_ ?_
     rotate_left 2
     ·go_simp
      constructor
      ·rfl
      ·rfl
     have hzg8 : NAt (World.alloc u9 (.cells (nw 0).toArray 24)) (u9.heap.size) 0 := by have h_ := Row.new u9 24 (nw 0); first | exact h_ | (simp only [alloc_sz] at h_; exact h_) | omega
     have hsg8 : u7.heap.size ≤ u9.heap.size := by have h_ := hHeld.size; first | exact h_ | (simp only [alloc_sz] at h_; exact h_) | omega
     have hng7g8 : u8.heap.size < u9.heap.size := by have h_ := hzg7.size; first | exact h_ | (simp only [alloc_sz] at h_; exact h_) | omega
     replace hzg7 := hzg7.on (below_alloc (Below.refl _ u9) (.cells (nw 0).toArray 24))
     refine hK.out _ _ (below_alloc hHeld _) (fun hHeld => ?_)
     clear hK K
     refine nm_ (some 8) ?_
     exact norm_ (by simp only [putAll, aS]) (hCont (u8.heap.size, u9.heap.size) _ ⟨hHeld, hzg7, hsg7, hzg8, hsg8, Nat.ne_of_lt hng7g8⟩)
    ·skip
     refine value_ (w1 := ?_) (v := ?_) (by rfl) rfl ?_ ?_
     rotate_left 2
     ·go_simp
      constructor
      ·rfl
      ·rfl
     have hzg8 : NAt (World.alloc (World.alloc u8 (.cells (nw 0).toArray 24)) (.cells (nw 0).toArray 24)) (u8.heap.size + 1) 0 := by have h_ := Row.new (World.alloc u8 (.cells (nw 0).toArray 24)) 24 (nw 0); first | exact h_ | (simp only [alloc_sz] at h_; exact h_) | omega
     have hsg8 : u7.heap.size ≤ u8.heap.size + 1 := by have h_ := hHeld.size; first | exact h_ | (simp only [alloc_sz] at h_; exact h_) | omega
     have hng7g8 : u8.heap.size < u8.heap.size + 1 := by have h_ := hzg7.size; first | exact h_ | (simp only [alloc_sz] at h_; exact h_) | omega
     replace hzg7 := hzg7.on (below_alloc (Below.refl _ (World.alloc u8 (.cells (nw 0).toArray 24))) (.cells (nw 0).toArray 24))
     refine hK.out _ _ (below_alloc hHeld _) (fun hHeld => ?_)
     clear hK K
     refine nm_ (some 8) ?_
     refine on1_ 7 (some 33) (bs 12 1023) rfl fun K hK => ?_
     refine gs_ Try.func55 #[cvV gf, numV z2] rfl ?_
     with_reducible refine (K4.out _ (HF.out.on hHeld)).mono ?_
     rintro e u9 ⟨rfl, hb_u9⟩
     refine ⟨_, rfl, ?_⟩
     have hq_u9 := bl_on hHeld hb_u9 hHeld.size
     replace hzg7 := hzg7.on hb_u9
     replace hzg8 := hzg8.on hb_u9
     refine hK.out _ _ (hq_u9) (fun hHeld => ?_)
     clear hK K
     refine nm_ (some 33) ?_
     exact norm_ (by simp only [putAll, aS]) (hCont (u8.heap.size, u8.heap.size + 1) _ ⟨hHeld, hzg7, hsg7, hzg8, hsg8, Nat.ne_of_lt hng7g8⟩)
   ·skip
    refine value_ (w1 := ?_) (v := ?_) (by rfl) rfl ?_ ?_
    rotate_left 2
    ·go_simp
     constructor
     ·rfl
     ·rfl
    have hzg8 : NAt (World.alloc u8 (.cells (nw 0).toArray 24)) (u8.heap.size) 0 := by have h_ := Row.new u8 24 (nw 0); first | exact h_ | (simp only [alloc_sz] at h_; exact h_) | omega
    have hsg8 : u7.heap.size ≤ u8.heap.size := by have h_ := hHeld.size; first | exact h_ | (simp only [alloc_sz] at h_; exact h_) | omega
    refine hK.out _ _ (below_alloc hHeld _) (fun hHeld => ?_)
    clear hK K
    refine nm_ (some 8) ?_
    refine tw_ 7 8 (some 33) (some 7) (bs 12 767) (bs 12 895) rfl rfl (fun K hK => ?_) (fun K hK => ?_)
    ·skip
     refine gs_ Try.func55 #[cvV gf, numV z2] rfl ?_
     with_reducible refine (K4.out _ (HF.out.on hHeld)).mono ?_
     rintro e u9 ⟨rfl, hb_u9⟩
     refine ⟨_, rfl, ?_⟩
     have hq_u9 := bl_on hHeld hb_u9 hHeld.size
     replace hzg8 := hzg8.on hb_u9
     refine hK.out _ _ (hq_u9) (fun hHeld => ?_)
     clear hK K
     refine nm_ (some 33) ?_
     refine on1_ 8 (some 7) (bs 12 1023) rfl fun K hK => ?_
     refine value_ (w1 := ?_) (v := ?_) (by rfl) rfl ?_ ?_
     rotate_left 2
     ·go_simp
      constructor
      ·rfl
      ·rfl
     have hzg7 : NAt (World.alloc u9 (.cells (nw 0).toArray 24)) (u9.heap.size) 0 := by have h_ := Row.new u9 24 (nw 0); first | exact h_ | (simp only [alloc_sz] at h_; exact h_) | omega
     have hsg7 : u7.heap.size ≤ u9.heap.size := by have h_ := hHeld.size; first | exact h_ | (simp only [alloc_sz] at h_; exact h_) | omega
     have hng8g7 : u8.heap.size < u9.heap.size := by have h_ := hzg8.size; first | exact h_ | (simp only [alloc_sz] at h_; exact h_) | omega
     replace hzg8 := hzg8.on (below_alloc (Below.refl _ u9) (.cells (nw 0).toArray 24))
     refine hK.out _ _ (below_alloc hHeld _) (fun hHeld => ?_)
     clear hK K
     refine nm_ (some 7) ?_
     exact norm_ (by simp only [putAll, aS]) (hCont (u9.heap.size, u8.heap.size) _ ⟨hHeld, hzg7, hsg7, hzg8, hsg8, Nat.ne_of_gt hng8g7⟩)
    ·skip
     refine value_ (w1 := ?_) (v := ?_) (by rfl) rfl ?_ ?_
     rotate_left 2
     ·go_simp
      constructor
      ·rfl
      ·rfl
     have hzg7 : NAt (World.alloc (World.alloc u8 (.cells (nw 0).toArray 24)) (.cells (nw 0).toArray 24)) (u8.heap.size + 1) 0 := by have h_ := Row.new (World.alloc u8 (.cells (nw 0).toArray 24)) 24 (nw 0); first | exact h_ | (simp only [alloc_sz] at h_; exact h_) | omega
     have hsg7 : u7.heap.size ≤ u8.heap.size + 1 := by have h_ := hHeld.size; first | exact h_ | (simp only [alloc_sz] at h_; exact h_) | omega
     have hng8g7 : u8.heap.size < u8.heap.size + 1 := by have h_ := hzg8.size; first | exact h_ | (simp only [alloc_sz] at h_; exact h_) | omega
     replace hzg8 := hzg8.on (below_alloc (Below.refl _ (World.alloc u8 (.cells (nw 0).toArray 24))) (.cells (nw 0).toArray 24))
     refine hK.out _ _ (below_alloc hHeld _) (fun hHeld => ?_)
     clear hK K
     refine nm_ (some 7) ?_
     refine on1_ 7 (some 33) (bs 12 1023) rfl fun K hK => ?_
     refine gs_ Try.func55 #[cvV gf, numV z2] rfl ?_
     with_reducible refine (K4.out _ (HF.out.on hHeld)).mono ?_
     rintro e u9 ⟨rfl, hb_u9⟩
     refine ⟨_, rfl, ?_⟩
     have hq_u9 := bl_on hHeld hb_u9 hHeld.size
     replace hzg8 := hzg8.on hb_u9
     replace hzg7 := hzg7.on hb_u9
     refine hK.out _ _ (hq_u9) (fun hHeld => ?_)
     clear hK K
     refine nm_ (some 33) ?_
     exact norm_ (by simp only [putAll, aS]) (hCont (u8.heap.size + 1, u8.heap.size) _ ⟨hHeld, hzg7, hsg7, hzg8, hsg8, Nat.ne_of_gt hng8g7⟩)
  ·skip
   refine value_ (w1 := ?_) (v := ?_) (by rfl) rfl ?_ ?_
   rotate_left 2
   ·go_simp
    constructor
    ·rfl
    ·rfl
   have hzg7 : NAt (World.alloc (World.drew u7) (.cells (nw 0).toArray 24)) (u7.heap.size) 0 := by have h_ := Row.new (World.drew u7) 24 (nw 0); first | exact h_ | (simp only [alloc_sz] at h_; exact h_) | omega
   have hsg7 : u7.heap.size ≤ u7.heap.size := by have h_ := hHeld.size; first | exact h_ | (simp only [alloc_sz] at h_; exact h_) | omega
   refine hK.out _ _ (below_alloc hHeld _) (fun hHeld => ?_)
   clear hK K
   refine nm_ (some 7) ?_
   refine tw_ 3 9 (some 29) (some 8) (bs 12 383) (bs 12 887) rfl rfl (fun K hK => ?_) (fun K hK => ?_)
   ·skip
    refine gs_ Try.func55 #[cvV gf, numV z1] rfl ?_
    with_reducible refine (K3.out _ (HF.out.on hHeld)).mono ?_
    rintro e u8 ⟨rfl, hb_u8⟩
    refine ⟨_, rfl, ?_⟩
    have hq_u8 := bl_on hHeld hb_u8 hHeld.size
    replace hzg7 := hzg7.on hb_u8
    refine hK.out _ _ (hq_u8) (fun hHeld => ?_)
    clear hK K
    refine nm_ (some 29) ?_
    refine tw_ 7 9 (some 33) (some 8) (bs 12 511) (bs 12 895) rfl rfl (fun K hK => ?_) (fun K hK => ?_)
    ·skip
     refine gs_ Try.func55 #[cvV gf, numV z2] rfl ?_
     with_reducible refine (K4.out _ (HF.out.on hHeld)).mono ?_
     rintro e u9 ⟨rfl, hb_u9⟩
     refine ⟨_, rfl, ?_⟩
     have hq_u9 := bl_on hHeld hb_u9 hHeld.size
     replace hzg7 := hzg7.on hb_u9
     refine hK.out _ _ (hq_u9) (fun hHeld => ?_)
     clear hK K
     refine nm_ (some 33) ?_
     refine on1_ 9 (some 8) (bs 12 1023) rfl fun K hK => ?_
     refine value_ (w1 := ?_) (v := ?_) (by rfl) rfl ?_ ?_
     rotate_left 2
     ·go_simp
      constructor
      ·rfl
      ·rfl
     have hzg8 : NAt (World.alloc u9 (.cells (nw 0).toArray 24)) (u9.heap.size) 0 := by have h_ := Row.new u9 24 (nw 0); first | exact h_ | (simp only [alloc_sz] at h_; exact h_) | omega
     have hsg8 : u7.heap.size ≤ u9.heap.size := by have h_ := hHeld.size; first | exact h_ | (simp only [alloc_sz] at h_; exact h_) | omega
     have hng7g8 : u7.heap.size < u9.heap.size := by have h_ := hzg7.size; first | exact h_ | (simp only [alloc_sz] at h_; exact h_) | omega
     replace hzg7 := hzg7.on (below_alloc (Below.refl _ u9) (.cells (nw 0).toArray 24))
     refine hK.out _ _ (below_alloc hHeld _) (fun hHeld => ?_)
     clear hK K
     refine nm_ (some 8) ?_
     exact norm_ (by simp only [putAll, aS]) (hCont (u7.heap.size, u9.heap.size) _ ⟨hHeld, hzg7, hsg7, hzg8, hsg8, Nat.ne_of_lt hng7g8⟩)
    ·skip
     refine value_ (w1 := ?_) (v := ?_) (by rfl) rfl ?_ ?_
     rotate_left 2
     ·go_simp
      constructor
      ·rfl
      ·rfl
     have hzg8 : NAt (World.alloc u8 (.cells (nw 0).toArray 24)) (u8.heap.size) 0 := by have h_ := Row.new u8 24 (nw 0); first | exact h_ | (simp only [alloc_sz] at h_; exact h_) | omega
     have hsg8 : u7.heap.size ≤ u8.heap.size := by have h_ := hHeld.size; first | exact h_ | (simp only [alloc_sz] at h_; exact h_) | omega
     have hng7g8 : u7.heap.size < u8.heap.size := by have h_ := hzg7.size; first | exact h_ | (simp only [alloc_sz] at h_; exact h_) | omega
     replace hzg7 := hzg7.on (below_alloc (Below.refl _ u8) (.cells (nw 0).toArray 24))
     refine hK.out _ _ (below_alloc hHeld _) (fun hHeld => ?_)
     clear hK K
     refine nm_ (some 8) ?_
     refine on1_ 7 (some 33) (bs 12 1023) rfl fun K hK => ?_
     refine gs_ Try.func55 #[cvV gf, numV z2] rfl ?_
     with_reducible refine (K4.out _ (HF.out.on hHeld)).mono ?_
     rintro e u9 ⟨rfl, hb_u9⟩
     refine ⟨_, rfl, ?_⟩
     have hq_u9 := bl_on hHeld hb_u9 hHeld.size
     replace hzg7 := hzg7.on hb_u9
     replace hzg8 := hzg8.on hb_u9
     refine hK.out _ _ (hq_u9) (fun hHeld => ?_)
     clear hK K
     refine nm_ (some 33) ?_
     exact norm_ (by simp only [putAll, aS]) (hCont (u7.heap.size, u8.heap.size) _ ⟨hHeld, hzg7, hsg7, hzg8, hsg8, Nat.ne_of_lt hng7g8⟩)
   ·skip
    refine value_ (w1 := ?_) (v := ?_) (by rfl) rfl ?_ ?_
    rotate_left 2
    ·go_simp
     constructor
     ·rfl
     ·rfl
    have hzg8 : NAt (World.alloc (World.alloc (World.drew u7) (.cells (nw 0).toArray 24)) (.cells (nw 0).toArray 24)) (u7.heap.size + 1) 0 := by have h_ := Row.new (World.alloc (World.drew u7) (.cells (nw 0).toArray 24)) 24 (nw 0); first | exact h_ | (simp only [alloc_sz] at h_; exact h_) | omega
    have hsg8 : u7.heap.size ≤ u7.heap.size + 1 := by have h_ := hHeld.size; first | exact h_ | (simp only [alloc_sz] at h_; exact h_) | omega
    have hng7g8 : u7.heap.size < u7.heap.size + 1 := by have h_ := hzg7.size; first | exact h_ | (simp only [alloc_sz] at h_; exact h_) | omega
    replace hzg7 := hzg7.on (below_alloc (Below.refl _ (World.alloc (World.drew u7) (.cells (nw 0).toArray 24))) (.cells (nw 0).toArray 24))
    refine hK.out _ _ (below_alloc hHeld _) (fun hHeld => ?_)
    clear hK K
    refine nm_ (some 8) ?_
    refine on1_ 3 (some 29) (bs 12 895) rfl fun K hK => ?_
    refine gs_ Try.func55 #[cvV gf, numV z1] rfl ?_
    with_reducible refine (K3.out _ (HF.out.on hHeld)).mono ?_
    rintro e u8 ⟨rfl, hb_u8⟩
    refine ⟨_, rfl, ?_⟩
    have hq_u8 := bl_on hHeld hb_u8 hHeld.size
    replace hzg7 := hzg7.on hb_u8
    replace hzg8 := hzg8.on hb_u8
    refine hK.out _ _ (hq_u8) (fun hHeld => ?_)
    clear hK K
    refine nm_ (some 29) ?_
    refine on1_ 7 (some 33) (bs 12 1023) rfl fun K hK => ?_
    refine gs_ Try.func55 #[cvV gf, numV z2] rfl ?_
    with_reducible refine (K4.out _ (HF.out.on hHeld)).mono ?_
    rintro e u9 ⟨rfl, hb_u9⟩
    refine ⟨_, rfl, ?_⟩
    have hq_u9 := bl_on hHeld hb_u9 hHeld.size
    replace hzg7 := hzg7.on hb_u9
    replace hzg8 := hzg8.on hb_u9
    refine hK.out _ _ (hq_u9) (fun hHeld => ?_)
    clear hK K
    refine nm_ (some 33) ?_
    exact norm_ (by simp only [putAll, aS]) (hCont (u7.heap.size, u7.heap.size + 1) _ ⟨hHeld, hzg7, hsg7, hzg8, hsg8, Nat.ne_of_lt hng7g8⟩)
  ·skip
   refine value_ (w1 := ?_) (v := ?_) (by rfl) rfl ?_ ?_
   rotate_left 2
   ·go_simp
    constructor
    ·rfl
    ·rfl
   have hzg8 : NAt (World.alloc (World.drew u7) (.cells (nw 0).toArray 24)) (u7.heap.size) 0 := by have h_ := Row.new (World.drew u7) 24 (nw 0); first | exact h_ | (simp only [alloc_sz] at h_; exact h_) | omega
   have hsg8 : u7.heap.size ≤ u7.heap.size := by have h_ := hHeld.size; first | exact h_ | (simp only [alloc_sz] at h_; exact h_) | omega
   refine hK.out _ _ (below_alloc hHeld _) (fun hHeld => ?_)
   clear hK K
   refine nm_ (some 8) ?_
   refine tw_ 3 8 (some 29) (some 7) (bs 12 639) (bs 12 887) rfl rfl (fun K hK => ?_) (fun K hK => ?_)
   ·skip
    refine gs_ Try.func55 #[cvV gf, numV z1] rfl ?_
    with_reducible refine (K3.out _ (HF.out.on hHeld)).mono ?_
    rintro e u8 ⟨rfl, hb_u8⟩
    refine ⟨_, rfl, ?_⟩
    have hq_u8 := bl_on hHeld hb_u8 hHeld.size
    replace hzg8 := hzg8.on hb_u8
    refine hK.out _ _ (hq_u8) (fun hHeld => ?_)
    clear hK K
    refine nm_ (some 29) ?_
    refine tw_ 7 8 (some 33) (some 7) (bs 12 767) (bs 12 895) rfl rfl (fun K hK => ?_) (fun K hK => ?_)
    ·skip
     refine gs_ Try.func55 #[cvV gf, numV z2] rfl ?_
     with_reducible refine (K4.out _ (HF.out.on hHeld)).mono ?_
     rintro e u9 ⟨rfl, hb_u9⟩
     refine ⟨_, rfl, ?_⟩
     have hq_u9 := bl_on hHeld hb_u9 hHeld.size
     replace hzg8 := hzg8.on hb_u9
     refine hK.out _ _ (hq_u9) (fun hHeld => ?_)
     clear hK K
     refine nm_ (some 33) ?_
     refine on1_ 8 (some 7) (bs 12 1023) rfl fun K hK => ?_
     refine value_ (w1 := ?_) (v := ?_) (by rfl) rfl ?_ ?_
     rotate_left 2
     ·go_simp
      constructor
      ·rfl
      ·rfl
     have hzg7 : NAt (World.alloc u9 (.cells (nw 0).toArray 24)) (u9.heap.size) 0 := by have h_ := Row.new u9 24 (nw 0); first | exact h_ | (simp only [alloc_sz] at h_; exact h_) | omega
     have hsg7 : u7.heap.size ≤ u9.heap.size := by have h_ := hHeld.size; first | exact h_ | (simp only [alloc_sz] at h_; exact h_) | omega
     have hng8g7 : u7.heap.size < u9.heap.size := by have h_ := hzg8.size; first | exact h_ | (simp only [alloc_sz] at h_; exact h_) | omega
     replace hzg8 := hzg8.on (below_alloc (Below.refl _ u9) (.cells (nw 0).toArray 24))
     refine hK.out _ _ (below_alloc hHeld _) (fun hHeld => ?_)
     clear hK K
     refine nm_ (some 7) ?_
     exact norm_ (by simp only [putAll, aS]) (hCont (u9.heap.size, u7.heap.size) _ ⟨hHeld, hzg7, hsg7, hzg8, hsg8, Nat.ne_of_gt hng8g7⟩)
    ·skip
     refine value_ (w1 := ?_) (v := ?_) (by rfl) rfl ?_ ?_
     rotate_left 2
     ·go_simp
      constructor
      ·rfl
      ·rfl
     have hzg7 : NAt (World.alloc u8 (.cells (nw 0).toArray 24)) (u8.heap.size) 0 := by have h_ := Row.new u8 24 (nw 0); first | exact h_ | (simp only [alloc_sz] at h_; exact h_) | omega
     have hsg7 : u7.heap.size ≤ u8.heap.size := by have h_ := hHeld.size; first | exact h_ | (simp only [alloc_sz] at h_; exact h_) | omega
     have hng8g7 : u7.heap.size < u8.heap.size := by have h_ := hzg8.size; first | exact h_ | (simp only [alloc_sz] at h_; exact h_) | omega
     replace hzg8 := hzg8.on (below_alloc (Below.refl _ u8) (.cells (nw 0).toArray 24))
     refine hK.out _ _ (below_alloc hHeld _) (fun hHeld => ?_)
     clear hK K
     refine nm_ (some 7) ?_
     refine on1_ 7 (some 33) (bs 12 1023) rfl fun K hK => ?_
     refine gs_ Try.func55 #[cvV gf, numV z2] rfl ?_
     with_reducible refine (K4.out _ (HF.out.on hHeld)).mono ?_
     rintro e u9 ⟨rfl, hb_u9⟩
     refine ⟨_, rfl, ?_⟩
     have hq_u9 := bl_on hHeld hb_u9 hHeld.size
     replace hzg8 := hzg8.on hb_u9
     replace hzg7 := hzg7.on hb_u9
     refine hK.out _ _ (hq_u9) (fun hHeld => ?_)
     clear hK K
     refine nm_ (some 33) ?_
     exact norm_ (by simp only [putAll, aS]) (hCont (u8.heap.size, u7.heap.size) _ ⟨hHeld, hzg7, hsg7, hzg8, hsg8, Nat.ne_of_gt hng8g7⟩)
   ·skip
    refine value_ (w1 := ?_) (v := ?_) (by rfl) rfl ?_ ?_
    rotate_left 2
    ·go_simp
     constructor
     ·rfl
     ·rfl
    have hzg7 : NAt (World.alloc (World.alloc (World.drew u7) (.cells (nw 0).toArray 24)) (.cells (nw 0).toArray 24)) (u7.heap.size + 1) 0 := by have h_ := Row.new (World.alloc (World.drew u7) (.cells (nw 0).toArray 24)) 24 (nw 0); first | exact h_ | (simp only [alloc_sz] at h_; exact h_) | omega
    have hsg7 : u7.heap.size ≤ u7.heap.size + 1 := by have h_ := hHeld.size; first | exact h_ | (simp only [alloc_sz] at h_; exact h_) | omega
    have hng8g7 : u7.heap.size < u7.heap.size + 1 := by have h_ := hzg8.size; first | exact h_ | (simp only [alloc_sz] at h_; exact h_) | omega
    replace hzg8 := hzg8.on (below_alloc (Below.refl _ (World.alloc (World.drew u7) (.cells (nw 0).toArray 24))) (.cells (nw 0).toArray 24))
    refine hK.out _ _ (below_alloc hHeld _) (fun hHeld => ?_)
    clear hK K
    refine nm_ (some 7) ?_
    refine on1_ 3 (some 29) (bs 12 895) rfl fun K hK => ?_
    refine gs_ Try.func55 #[cvV gf, numV z1] rfl ?_
    with_reducible refine (K3.out _ (HF.out.on hHeld)).mono ?_
    rintro e u8 ⟨rfl, hb_u8⟩
    refine ⟨_, rfl, ?_⟩
    have hq_u8 := bl_on hHeld hb_u8 hHeld.size
    replace hzg8 := hzg8.on hb_u8
    replace hzg7 := hzg7.on hb_u8
    refine hK.out _ _ (hq_u8) (fun hHeld => ?_)
    clear hK K
    refine nm_ (some 29) ?_
    refine on1_ 7 (some 33) (bs 12 1023) rfl fun K hK => ?_
    refine gs_ Try.func55 #[cvV gf, numV z2] rfl ?_
    with_reducible refine (K4.out _ (HF.out.on hHeld)).mono ?_
    rintro e u9 ⟨rfl, hb_u9⟩
    refine ⟨_, rfl, ?_⟩
    have hq_u9 := bl_on hHeld hb_u9 hHeld.size
    replace hzg8 := hzg8.on hb_u9
    replace hzg7 := hzg7.on hb_u9
    refine hK.out _ _ (hq_u9) (fun hHeld => ?_)
    clear hK K
    refine nm_ (some 33) ?_
    exact norm_ (by simp only [putAll, aS]) (hCont (u7.heap.size + 1, u7.heap.size) _ ⟨hHeld, hzg7, hsg7, hzg8, hsg8, Nat.ne_of_gt hng8g7⟩)
 rintro ⟨g7, g8⟩ v10 ⟨hHeld0, hzg7, hsg7, hzg8, hsg8, hneg7g8⟩
 have hHeld : Below u7.heap.size u7 v10 := hHeld0
 clear hHeld0
 refine norm_ (a' := ?_) ?_ ?_
 rotate_left
 ·simp only [putAll, aS]
  rfl
 refine on1_ 10 none (bs 12 2047) rfl fun K hK => ?_
 refine skip_num (hzg7) (by rfl) rfl (.tmp 7) (.tmp 29) rfl rfl rfl ?_
 intro q11 hA_q11 hT_q11
 refine hK.out _ _ (bl_but hHeld hT_q11 hHeld.size hsg7) (fun hHeld => ?_)
 clear hK K
 refine last_ (i := 11) (N := none) (bs 12 4095) rfl rfl (by kernel_rfl) (by decide) (fun K hK => ?_)
 refine skip_num ((hzg8).but hT_q11 hneg7g8.symm) (by rfl) rfl (.tmp 8) (.tmp 33) rfl rfl rfl ?_
 intro q12 hA_q12 hT_q12
 refine hK.out _ _ ?_
 clear hK K
 refine done_ (by kernel_rfl) ?_
 have HXg7 : Aside0 (w.heap.size + 1 + 1 + 1 + 1 ≤ g7) := Aside0.mk (Nat.le_trans HS.out hsg7)
 have HXg8 : Aside0 (w.heap.size + 1 + 1 + 1 + 1 ≤ g8) := Aside0.mk (Nat.le_trans HS.out hsg8)
 have HXg7g8 : Aside0 (g7 ≠ g8) := Aside0.mk hneg7g8
 replace HC := Aside0.mk (HC.out.on hHeld)
 replace HP1 := Aside0.mk (HP1.out.on hHeld)
 replace HP2 := Aside0.mk (HP2.out.on hHeld)
 replace HR := Aside0.mk (HR.out.on hHeld)
 replace HF := Aside0.mk (HF.out.on hHeld)
 replace HB := Aside0.mk (bl_on HB.out hHeld HB.out.size)
 replace HS := Aside0.mk (Nat.le_trans HS.out hHeld.size)
 have Hg7 := Aside0.mk hA_q11
 replace HC := Aside0.mk (HC.out.but hT_q12 (by have := HXg7.out; have := HXg8.out; have := HXg7g8.out; have := HG.out; omega))
 replace HP1 := Aside0.mk (HP1.out.but hT_q12 (by have := HXg7.out; have := HXg8.out; have := HXg7g8.out; have := HG.out; omega))
 replace HP2 := Aside0.mk (HP2.out.but hT_q12 (by have := HXg7.out; have := HXg8.out; have := HXg7g8.out; have := HG.out; omega))
 replace HR := Aside0.mk (HR.out.but hT_q12 (by have := HXg7.out; have := HXg8.out; have := HXg7g8.out; have := HG.out; omega))
 replace Hg7 := Aside0.mk (Hg7.out.but hT_q12 (by have := HXg7.out; have := HXg8.out; have := HXg7g8.out; have := HG.out; omega))
 replace HF := Aside0.mk (HF.out.but hT_q12 (by have := HXg7.out; have := HXg8.out; have := HXg7g8.out; have := HG.out; omega))
 have Hg8 := Aside0.mk hA_q12
 replace HB := Aside0.mk (bl_but HB.out hT_q12 HB.out.size (by have := HXg7.out; have := HXg8.out; have := HXg7g8.out; have := HG.out; omega))
 replace HS := Aside0.mk (Nat.le_trans HS.out hT_q12.size)
 clear hA_q11 hT_q11 hA_q12 hT_q12 hzg7 hsg7 hzg8 hsg8 hneg7g8 hHeld
 go_wp2
 refine start_ (n := 16) (S := fun w' => Below q12.heap.size q12 w' ∧ w'.cell? ⟨w.heap.size, 3, none⟩ = some (mthV 53 gf)) (ds := [15]) (bs 16 0) (by kernel_rfl) rfl rfl ⟨(Below.refl _ _).drew, HC.out.c3⟩ (fun hHeld => ?_)
 refine pu_ 0 34 (bs 16 1) ?_ ?_ ?_ ?_ ?_
 rotate_left
 ·intro w'
  go_simp
  with_reducible rfl
 rotate_left
 ·simp only [aS, i64_w, i32_w]
  rfl
 refine pu_ 2 36 (bs 16 5) ?_ ?_ ?_ ?_ ?_
 rotate_left
 ·intro w'
  go_simp
  with_reducible rfl
 rotate_left
 ·simp only [aS, i64_w, i32_w]
  rfl
 refine pu_ 6 40 (bs 16 69) ?_ ?_ ?_ ?_ ?_
 rotate_left
 ·intro w'
  go_simp
  with_reducible rfl
 rotate_left
 ·simp only [aS, i64_w, i32_w]
  rfl
 refine pu_ 8 42 (bs 16 325) ?_ ?_ ?_ ?_ ?_
 rotate_left
 ·intro w'
  go_simp
  with_reducible rfl
 rotate_left
 ·simp only [aS, i64_w, i32_w]
  rfl
 refine tk_ 1 35 (bs 16 327) ?_ ?_ hHeld ?_ ?_ ?_
 rotate_left
 ·rintro w' ⟨s0, s1⟩
  go_simp
  with_reducible rfl
 rotate_left
 ·simp only [aS, i64_w, i32_w]
  rfl
 refine take_ (i := 3) (N := some 37) (a' := ?_) (bs 16 335) rfl rfl (by kernel_rfl) (fun _ _ _ h => h) (yields_num (g := w.heap.size + 1) (o := 0) (n := x1) (by rfl) (.tmp 36) rfl rfl (fun w' hS => (HP1.out.on hS.1).rx)) hHeld ?_ ?_
 rotate_left
 ·simp only [aS, i64_w, i32_w]
  rfl
 refine take_ (i := 4) (N := some 38) (a' := ?_) (bs 16 351) rfl rfl (by kernel_rfl) (fun _ _ _ h => h) (yields_num (g := g8) (o := 0) (n := t2) (by rfl) (.tmp 8) rfl rfl (fun w' hS => (Hg8.out.on hS.1).range)) hHeld ?_ ?_
 rotate_left
 ·simp only [aS, i64_w, i32_w]
  rfl
 refine tk_ 7 41 (bs 16 479) ?_ ?_ hHeld ?_ ?_ ?_
 rotate_left
 ·rintro w' ⟨s0, s1⟩
  go_simp
  with_reducible rfl
 rotate_left
 ·simp only [aS, i64_w, i32_w]
  rfl
 refine take_ (i := 9) (N := some 43) (a' := ?_) (bs 16 991) rfl rfl (by kernel_rfl) (fun _ _ _ h => h) (yields_num (g := w.heap.size + 1 + 1) (o := 0) (n := x2) (by rfl) (.tmp 42) rfl rfl (fun w' hS => (HP2.out.on hS.1).rx)) hHeld ?_ ?_
 rotate_left
 ·simp only [aS, i64_w, i32_w]
  rfl
 refine take_ (i := 10) (N := some 44) (a' := ?_) (bs 16 2015) rfl rfl (by kernel_rfl) (fun _ _ _ h => h) (yields_num (g := g7) (o := 0) (n := t1) (by rfl) (.tmp 7) rfl rfl (fun w' hS => (Hg7.out.on hS.1).range)) hHeld ?_ ?_
 rotate_left
 ·simp only [aS, i64_w, i32_w]
  rfl
 refine join_ (σ := Nat × Nat) 2 (bs 16 16383) (fun s => [(9, .pointer (some ⟨s.1, 0, none⟩)), (10, .pointer (some ⟨s.2, 0, none⟩)), (39, numV t3), (45, numV t4)]) (fun s w' => Below q12.heap.size q12 w' ∧ NAt w' s.1 0 ∧ q12.heap.size ≤ s.1 ∧ NAt w' s.2 0 ∧ q12.heap.size ≤ s.2 ∧ s.1 ≠ s.2) ?_ ?_
 rotate_left
 ·intro hCont
  refine three_ (i := 5) (j := 12) (k := 13) (Ni := some 39) (Nj := some 9) (Nk := some 10) (bs 16 2047) (bs 16 6111) (bs 16 10207) rfl rfl rfl rfl rfl rfl (by kernel_rfl) (by decide) (by decide) (by decide) (fun K hK => ?_) (fun K hK => ?_) (fun K hK => ?_)
  ·skip
   refine gF_ Try.func53 gf (numV x1) (numV t2) rfl ?_
   with_reducible refine (K5.out _ (HF.out.on hHeld.1)).mono ?_
   rintro e u13 ⟨rfl, hb_u13⟩
   refine ⟨_, rfl, ?_⟩
   have hq_u13 := bl_on hHeld.1 hb_u13 hHeld.1.size
   refine hK.out _ _ ⟨hq_u13, (HC.out.on (hq_u13)).c3⟩ (fun hHeld => ?_)
   clear hK K
   refine nm_ (some 39) ?_
   refine three_ (i := 11) (j := 12) (k := 13) (Ni := some 45) (Nj := some 9) (Nk := some 10) (bs 16 4095) (bs 16 6143) (bs 16 10239) rfl rfl rfl rfl rfl rfl (by kernel_rfl) (by decide) (by decide) (by decide) (fun K hK => ?_) (fun K hK => ?_) (fun K hK => ?_)
   ·skip
    refine gF_ Try.func53 gf (numV x2) (numV t1) rfl ?_
    with_reducible refine (K6.out _ (HF.out.on hHeld.1)).mono ?_
    rintro e u14 ⟨rfl, hb_u14⟩
    refine ⟨_, rfl, ?_⟩
    have hq_u14 := bl_on hHeld.1 hb_u14 hHeld.1.size
    refine hK.out _ _ ⟨hq_u14, (HC.out.on (hq_u14)).c3⟩ (fun hHeld => ?_)
    clear hK K
    refine nm_ (some 45) ?_
    refine tw_ 12 13 (some 9) (some 10) (bs 16 8191) (bs 16 12287) rfl rfl (fun K hK => ?_) (fun K hK => ?_)
    ·skip
     refine value_ (w1 := ?_) (v := ?_) (by rfl) rfl ?_ ?_
     rotate_left 2
     ·go_simp
      constructor
      ·rfl
      ·rfl
     have hzg9 : NAt (World.alloc u14 (.cells (nw 0).toArray 24)) (u14.heap.size) 0 := by have h_ := Row.new u14 24 (nw 0); first | exact h_ | (simp only [alloc_sz] at h_; exact h_) | omega
     have hsg9 : q12.heap.size ≤ u14.heap.size := by have h_ := hHeld.1.size; first | exact h_ | (simp only [alloc_sz] at h_; exact h_) | omega
     refine hK.out _ _ ⟨below_alloc hHeld.1 _, (HC.out.on (below_alloc hHeld.1 _)).c3⟩ (fun hHeld => ?_)
     clear hK K
     refine nm_ (some 9) ?_
     refine on1_ 13 (some 10) (bs 16 16383) rfl fun K hK => ?_
     refine value_ (w1 := ?_) (v := ?_) (by rfl) rfl ?_ ?_
     rotate_left 2
     ·go_simp
      constructor
      ·rfl
      ·rfl
     have hzg10 : NAt (World.alloc (World.alloc u14 (.cells (nw 0).toArray 24)) (.cells (nw 0).toArray 24)) (u14.heap.size + 1) 0 := by have h_ := Row.new (World.alloc u14 (.cells (nw 0).toArray 24)) 24 (nw 0); first | exact h_ | (simp only [alloc_sz] at h_; exact h_) | omega
     have hsg10 : q12.heap.size ≤ u14.heap.size + 1 := by have h_ := hHeld.1.size; first | exact h_ | (simp only [alloc_sz] at h_; exact h_) | omega
     have hng9g10 : u14.heap.size < u14.heap.size + 1 := by have h_ := hzg9.size; first | exact h_ | (simp only [alloc_sz] at h_; exact h_) | omega
     replace hzg9 := hzg9.on (below_alloc (Below.refl _ (World.alloc u14 (.cells (nw 0).toArray 24))) (.cells (nw 0).toArray 24))
     refine hK.out _ _ ⟨below_alloc hHeld.1 _, (HC.out.on (below_alloc hHeld.1 _)).c3⟩ (fun hHeld => ?_)
     clear hK K
     refine nm_ (some 10) ?_
     exact norm_ (by simp only [putAll, aS]) (hCont (u14.heap.size, u14.heap.size + 1) _ ⟨hHeld.1, hzg9, hsg9, hzg10, hsg10, Nat.ne_of_lt hng9g10⟩)
    ·skip
     refine value_ (w1 := ?_) (v := ?_) (by rfl) rfl ?_ ?_
     rotate_left 2
     ·go_simp
      constructor
      ·rfl
      ·rfl
     have hzg10 : NAt (World.alloc u14 (.cells (nw 0).toArray 24)) (u14.heap.size) 0 := by have h_ := Row.new u14 24 (nw 0); first | exact h_ | (simp only [alloc_sz] at h_; exact h_) | omega
     have hsg10 : q12.heap.size ≤ u14.heap.size := by have h_ := hHeld.1.size; first | exact h_ | (simp only [alloc_sz] at h_; exact h_) | omega
     refine hK.out _ _ ⟨below_alloc hHeld.1 _, (HC.out.on (below_alloc hHeld.1 _)).c3⟩ (fun hHeld => ?_)
     clear hK K
     refine nm_ (some 10) ?_
     refine on1_ 12 (some 9) (bs 16 16383) rfl fun K hK => ?_
     refine value_ (w1 := ?_) (v := ?_) (by rfl) rfl ?_ ?_
     rotate_left 2
     ·go_simp
      constructor
      ·rfl
      ·rfl
     have hzg9 : NAt (World.alloc (World.alloc u14 (.cells (nw 0).toArray 24)) (.cells (nw 0).toArray 24)) (u14.heap.size + 1) 0 := by have h_ := Row.new (World.alloc u14 (.cells (nw 0).toArray 24)) 24 (nw 0); first | exact h_ | (simp only [alloc_sz] at h_; exact h_) | omega
     have hsg9 : q12.heap.size ≤ u14.heap.size + 1 := by have h_ := hHeld.1.size; first | exact h_ | (simp only [alloc_sz] at h_; exact h_) | omega
     have hng10g9 : u14.heap.size < u14.heap.size + 1 := by have h_ := hzg10.size; first | exact h_ | (simp only [alloc_sz] at h_; exact h_) | omega
     replace hzg10 := hzg10.on (below_alloc (Below.refl _ (World.alloc u14 (.cells (nw 0).toArray 24))) (.cells (nw 0).toArray 24))
     refine hK.out _ _ ⟨below_alloc hHeld.1 _, (HC.out.on (below_alloc hHeld.1 _)).c3⟩ (fun hHeld => ?_)
     clear hK K
     refine nm_ (some 9) ?_
     exact norm_ (by simp only [putAll, aS]) (hCont (u14.heap.size + 1, u14.heap.size) _ ⟨hHeld.1, hzg9, hsg9, hzg10, hsg10, Nat.ne_of_gt hng10g9⟩)
   ·skip
    refine value_ (w1 := ?_) (v := ?_) (by rfl) rfl ?_ ?_
    rotate_left 2
    ·go_simp
     constructor
     ·rfl
     ·rfl
    have hzg9 : NAt (World.alloc u13 (.cells (nw 0).toArray 24)) (u13.heap.size) 0 := by have h_ := Row.new u13 24 (nw 0); first | exact h_ | (simp only [alloc_sz] at h_; exact h_) | omega
    have hsg9 : q12.heap.size ≤ u13.heap.size := by have h_ := hHeld.1.size; first | exact h_ | (simp only [alloc_sz] at h_; exact h_) | omega
    refine hK.out _ _ ⟨below_alloc hHeld.1 _, (HC.out.on (below_alloc hHeld.1 _)).c3⟩ (fun hHeld => ?_)
    clear hK K
    refine nm_ (some 9) ?_
    refine tw_ 11 13 (some 45) (some 10) (bs 16 8191) (bs 16 14335) rfl rfl (fun K hK => ?_) (fun K hK => ?_)
    ·skip
     refine gF_ Try.func53 gf (numV x2) (numV t1) rfl ?_
     with_reducible refine (K6.out _ (HF.out.on hHeld.1)).mono ?_
     rintro e u14 ⟨rfl, hb_u14⟩
     refine ⟨_, rfl, ?_⟩
     have hq_u14 := bl_on hHeld.1 hb_u14 hHeld.1.size
     replace hzg9 := hzg9.on hb_u14
     refine hK.out _ _ ⟨hq_u14, (HC.out.on (hq_u14)).c3⟩ (fun hHeld => ?_)
     clear hK K
     refine nm_ (some 45) ?_
     refine on1_ 13 (some 10) (bs 16 16383) rfl fun K hK => ?_
     refine value_ (w1 := ?_) (v := ?_) (by rfl) rfl ?_ ?_
     rotate_left 2
     ·go_simp
      constructor
      ·rfl
      ·rfl
     have hzg10 : NAt (World.alloc u14 (.cells (nw 0).toArray 24)) (u14.heap.size) 0 := by have h_ := Row.new u14 24 (nw 0); first | exact h_ | (simp only [alloc_sz] at h_; exact h_) | omega
     have hsg10 : q12.heap.size ≤ u14.heap.size := by have h_ := hHeld.1.size; first | exact h_ | (simp only [alloc_sz] at h_; exact h_) | omega
     have hng9g10 : u13.heap.size < u14.heap.size := by have h_ := hzg9.size; first | exact h_ | (simp only [alloc_sz] at h_; exact h_) | omega
     replace hzg9 := hzg9.on (below_alloc (Below.refl _ u14) (.cells (nw 0).toArray 24))
     refine hK.out _ _ ⟨below_alloc hHeld.1 _, (HC.out.on (below_alloc hHeld.1 _)).c3⟩ (fun hHeld => ?_)
     clear hK K
     refine nm_ (some 10) ?_
     exact norm_ (by simp only [putAll, aS]) (hCont (u13.heap.size, u14.heap.size) _ ⟨hHeld.1, hzg9, hsg9, hzg10, hsg10, Nat.ne_of_lt hng9g10⟩)
    ·skip
     refine value_ (w1 := ?_) (v := ?_) (by rfl) rfl ?_ ?_
     rotate_left 2
     ·go_simp
      constructor
      ·rfl
      ·rfl
     have hzg10 : NAt (World.alloc (World.alloc u13 (.cells (nw 0).toArray 24)) (.cells (nw 0).toArray 24)) (u13.heap.size + 1) 0 := by have h_ := Row.new (World.alloc u13 (.cells (nw 0).toArray 24)) 24 (nw 0); first | exact h_ | (simp only [alloc_sz] at h_; exact h_) | omega
     have hsg10 : q12.heap.size ≤ u13.heap.size + 1 := by have h_ := hHeld.1.size; first | exact h_ | (simp only [alloc_sz] at h_; exact h_) | omega
     have hng9g10 : u13.heap.size < u13.heap.size + 1 := by have h_ := hzg9.size; first | exact h_ | (simp only [alloc_sz] at h_; exact h_) | omega
     replace hzg9 := hzg9.on (below_alloc (Below.refl _ (World.alloc u13 (.cells (nw 0).toArray 24))) (.cells (nw 0).toArray 24))
     refine hK.out _ _ ⟨below_alloc hHeld.1 _, (HC.out.on (below_alloc hHeld.1 _)).c3⟩ (fun hHeld => ?_)
     clear hK K
     refine nm_ (some 10) ?_
     refine on1_ 11 (some 45) (bs 16 16383) rfl fun K hK => ?_
     refine gF_ Try.func53 gf (numV x2) (numV t1) rfl ?_
     with_reducible refine (K6.out _ (HF.out.on hHeld.1)).mono ?_
     rintro e u14 ⟨rfl, hb_u14⟩
     refine ⟨_, rfl, ?_⟩
     have hq_u14 := bl_on hHeld.1 hb_u14 hHeld.1.size
     replace hzg9 := hzg9.on hb_u14
     replace hzg10 := hzg10.on hb_u14
     refine hK.out _ _ ⟨hq_u14, (HC.out.on (hq_u14)).c3⟩ (fun hHeld => ?_)
     clear hK K
     refine nm_ (some 45) ?_
     exact norm_ (by simp only [putAll, aS]) (hCont (u13.heap.size, u13.heap.size + 1) _ ⟨hHeld.1, hzg9, hsg9, hzg10, hsg10, Nat.ne_of_lt hng9g10⟩)
   ·skip
    refine value_ (w1 := ?_) (v := ?_) (by rfl) rfl ?_ ?_
    rotate_left 2
    ·go_simp
     constructor
     ·rfl
     ·rfl
    have hzg10 : NAt (World.alloc u13 (.cells (nw 0).toArray 24)) (u13.heap.size) 0 := by have h_ := Row.new u13 24 (nw 0); first | exact h_ | (simp only [alloc_sz] at h_; exact h_) | omega
    have hsg10 : q12.heap.size ≤ u13.heap.size := by have h_ := hHeld.1.size; first | exact h_ | (simp only [alloc_sz] at h_; exact h_) | omega
    refine hK.out _ _ ⟨below_alloc hHeld.1 _, (HC.out.on (below_alloc hHeld.1 _)).c3⟩ (fun hHeld => ?_)
    clear hK K
    refine nm_ (some 10) ?_
    refine tw_ 11 12 (some 45) (some 9) (bs 16 12287) (bs 16 14335) rfl rfl (fun K hK => ?_) (fun K hK => ?_)
    ·skip
     refine gF_ Try.func53 gf (numV x2) (numV t1) rfl ?_
     with_reducible refine (K6.out _ (HF.out.on hHeld.1)).mono ?_
     rintro e u14 ⟨rfl, hb_u14⟩
     refine ⟨_, rfl, ?_⟩
     have hq_u14 := bl_on hHeld.1 hb_u14 hHeld.1.size
     replace hzg10 := hzg10.on hb_u14
     refine hK.out _ _ ⟨hq_u14, (HC.out.on (hq_u14)).c3⟩ (fun hHeld => ?_)
     clear hK K
     refine nm_ (some 45) ?_
     refine on1_ 12 (some 9) (bs 16 16383) rfl fun K hK => ?_
     refine value_ (w1 := ?_) (v := ?_) (by rfl) rfl ?_ ?_
     rotate_left 2
     ·go_simp
      constructor
      ·rfl
      ·rfl
     have hzg9 : NAt (World.alloc u14 (.cells (nw 0).toArray 24)) (u14.heap.size) 0 := by have h_ := Row.new u14 24 (nw 0); first | exact h_ | (simp only [alloc_sz] at h_; exact h_) | omega
     have hsg9 : q12.heap.size ≤ u14.heap.size := by have h_ := hHeld.1.size; first | exact h_ | (simp only [alloc_sz] at h_; exact h_) | omega
     have hng10g9 : u13.heap.size < u14.heap.size := by have h_ := hzg10.size; first | exact h_ | (simp only [alloc_sz] at h_; exact h_) | omega
     replace hzg10 := hzg10.on (below_alloc (Below.refl _ u14) (.cells (nw 0).toArray 24))
     refine hK.out _ _ ⟨below_alloc hHeld.1 _, (HC.out.on (below_alloc hHeld.1 _)).c3⟩ (fun hHeld => ?_)
     clear hK K
     refine nm_ (some 9) ?_
     exact norm_ (by simp only [putAll, aS]) (hCont (u14.heap.size, u13.heap.size) _ ⟨hHeld.1, hzg9, hsg9, hzg10, hsg10, Nat.ne_of_gt hng10g9⟩)
    ·skip
     refine value_ (w1 := ?_) (v := ?_) (by rfl) rfl ?_ ?_
     rotate_left 2
     ·go_simp
      constructor
      ·rfl
      ·rfl
     have hzg9 : NAt (World.alloc (World.alloc u13 (.cells (nw 0).toArray 24)) (.cells (nw 0).toArray 24)) (u13.heap.size + 1) 0 := by have h_ := Row.new (World.alloc u13 (.cells (nw 0).toArray 24)) 24 (nw 0); first | exact h_ | (simp only [alloc_sz] at h_; exact h_) | omega
     have hsg9 : q12.heap.size ≤ u13.heap.size + 1 := by have h_ := hHeld.1.size; first | exact h_ | (simp only [alloc_sz] at h_; exact h_) | omega
     have hng10g9 : u13.heap.size < u13.heap.size + 1 := by have h_ := hzg10.size; first | exact h_ | (simp only [alloc_sz] at h_; exact h_) | omega
     replace hzg10 := hzg10.on (below_alloc (Below.refl _ (World.alloc u13 (.cells (nw 0).toArray 24))) (.cells (nw 0).toArray 24))
     refine hK.out _ _ ⟨below_alloc hHeld.1 _, (HC.out.on (below_alloc hHeld.1 _)).c3⟩ (fun hHeld => ?_)
     clear hK K
     refine nm_ (some 9) ?_
     refine on1_ 11 (some 45) (bs 16 16383) rfl fun K hK => ?_
     refine gF_ Try.func53 gf (numV x2) (numV t1) rfl ?_
     with_reducible refine (K6.out _ (HF.out.on hHeld.1)).mono ?_
     rintro e u14 ⟨rfl, hb_u14⟩
     refine ⟨_, rfl, ?_⟩
     have hq_u14 := bl_on hHeld.1 hb_u14 hHeld.1.size
     replace hzg10 := hzg10.on hb_u14
     replace hzg9 := hzg9.on hb_u14
     refine hK.out _ _ ⟨hq_u14, (HC.out.on (hq_u14)).c3⟩ (fun hHeld => ?_)
     clear hK K
     refine nm_ (some 45) ?_
     exact norm_ (by simp only [putAll, aS]) (hCont (u13.heap.size + 1, u13.heap.size) _ ⟨hHeld.1, hzg9, hsg9, hzg10, hsg10, Nat.ne_of_gt hng10g9⟩)
  ·skip
   refine value_ (w1 := ?_) (v := ?_) (by rfl) rfl ?_ ?_
   rotate_left 2
   ·go_simp
    constructor
    ·rfl
    ·rfl
   have hzg9 : NAt (World.alloc (World.drew q12) (.cells (nw 0).toArray 24)) (q12.heap.size) 0 := by have h_ := Row.new (World.drew q12) 24 (nw 0); first | exact h_ | (simp only [alloc_sz] at h_; exact h_) | omega
   have hsg9 : q12.heap.size ≤ q12.heap.size := by have h_ := hHeld.1.size; first | exact h_ | (simp only [alloc_sz] at h_; exact h_) | omega
   refine hK.out _ _ ⟨below_alloc hHeld.1 _, (HC.out.on (below_alloc hHeld.1 _)).c3⟩ (fun hHeld => ?_)
   clear hK K
   refine nm_ (some 9) ?_
   refine tw_ 5 13 (some 39) (some 10) (bs 16 6143) (bs 16 14303) rfl rfl (fun K hK => ?_) (fun K hK => ?_)
   ·skip
    refine gF_ Try.func53 gf (numV x1) (numV t2) rfl ?_
    with_reducible refine (K5.out _ (HF.out.on hHeld.1)).mono ?_
    rintro e u13 ⟨rfl, hb_u13⟩
    refine ⟨_, rfl, ?_⟩
    have hq_u13 := bl_on hHeld.1 hb_u13 hHeld.1.size
    replace hzg9 := hzg9.on hb_u13
    refine hK.out _ _ ⟨hq_u13, (HC.out.on (hq_u13)).c3⟩ (fun hHeld => ?_)
    clear hK K
    refine nm_ (some 39) ?_
    refine tw_ 11 13 (some 45) (some 10) (bs 16 8191) (bs 16 14335) rfl rfl (fun K hK => ?_) (fun K hK => ?_)
    ·skip
     refine gF_ Try.func53 gf (numV x2) (numV t1) rfl ?_
     with_reducible refine (K6.out _ (HF.out.on hHeld.1)).mono ?_
     rintro e u14 ⟨rfl, hb_u14⟩
     refine ⟨_, rfl, ?_⟩
     have hq_u14 := bl_on hHeld.1 hb_u14 hHeld.1.size
     replace hzg9 := hzg9.on hb_u14
     refine hK.out _ _ ⟨hq_u14, (HC.out.on (hq_u14)).c3⟩ (fun hHeld => ?_)
     clear hK K
     refine nm_ (some 45) ?_
     refine on1_ 13 (some 10) (bs 16 16383) rfl fun K hK => ?_
     refine value_ (w1 := ?_) (v := ?_) (by rfl) rfl ?_ ?_
     rotate_left 2
     ·go_simp
      constructor
      ·rfl
      ·rfl
     have hzg10 : NAt (World.alloc u14 (.cells (nw 0).toArray 24)) (u14.heap.size) 0 := by have h_ := Row.new u14 24 (nw 0); first | exact h_ | (simp only [alloc_sz] at h_; exact h_) | omega
     have hsg10 : q12.heap.size ≤ u14.heap.size := by have h_ := hHeld.1.size; first | exact h_ | (simp only [alloc_sz] at h_; exact h_) | omega
     have hng9g10 : q12.heap.size < u14.heap.size := by have h_ := hzg9.size; first | exact h_ | (simp only [alloc_sz] at h_; exact h_) | omega
     replace hzg9 := hzg9.on (below_alloc (Below.refl _ u14) (.cells (nw 0).toArray 24))
     refine hK.out _ _ ⟨below_alloc hHeld.1 _, (HC.out.on (below_alloc hHeld.1 _)).c3⟩ (fun hHeld => ?_)
     clear hK K
     refine nm_ (some 10) ?_
     exact norm_ (by simp only [putAll, aS]) (hCont (q12.heap.size, u14.heap.size) _ ⟨hHeld.1, hzg9, hsg9, hzg10, hsg10, Nat.ne_of_lt hng9g10⟩)
    ·skip
     refine value_ (w1 := ?_) (v := ?_) (by rfl) rfl ?_ ?_
     rotate_left 2
     ·go_simp
      constructor
      ·rfl
      ·rfl
     have hzg10 : NAt (World.alloc u13 (.cells (nw 0).toArray 24)) (u13.heap.size) 0 := by have h_ := Row.new u13 24 (nw 0); first | exact h_ | (simp only [alloc_sz] at h_; exact h_) | omega
     have hsg10 : q12.heap.size ≤ u13.heap.size := by have h_ := hHeld.1.size; first | exact h_ | (simp only [alloc_sz] at h_; exact h_) | omega
     have hng9g10 : q12.heap.size < u13.heap.size := by have h_ := hzg9.size; first | exact h_ | (simp only [alloc_sz] at h_; exact h_) | omega
     replace hzg9 := hzg9.on (below_alloc (Below.refl _ u13) (.cells (nw 0).toArray 24))
     refine hK.out _ _ ⟨below_alloc hHeld.1 _, (HC.out.on (below_alloc hHeld.1 _)).c3⟩ (fun hHeld => ?_)
     clear hK K
     refine nm_ (some 10) ?_
     refine on1_ 11 (some 45) (bs 16 16383) rfl fun K hK => ?_
     refine gF_ Try.func53 gf (numV x2) (numV t1) rfl ?_
     with_reducible refine (K6.out _ (HF.out.on hHeld.1)).mono ?_
     rintro e u14 ⟨rfl, hb_u14⟩
     refine ⟨_, rfl, ?_⟩
     have hq_u14 := bl_on hHeld.1 hb_u14 hHeld.1.size
     replace hzg9 := hzg9.on hb_u14
     replace hzg10 := hzg10.on hb_u14
     refine hK.out _ _ ⟨hq_u14, (HC.out.on (hq_u14)).c3⟩ (fun hHeld => ?_)
     clear hK K
     refine nm_ (some 45) ?_
     exact norm_ (by simp only [putAll, aS]) (hCont (q12.heap.size, u13.heap.size) _ ⟨hHeld.1, hzg9, hsg9, hzg10, hsg10, Nat.ne_of_lt hng9g10⟩)
   ·skip
    refine value_ (w1 := ?_) (v := ?_) (by rfl) rfl ?_ ?_
    rotate_left 2
    ·go_simp
     constructor
     ·rfl
     ·rfl
    have hzg10 : NAt (World.alloc (World.alloc (World.drew q12) (.cells (nw 0).toArray 24)) (.cells (nw 0).toArray 24)) (q12.heap.size + 1) 0 := by have h_ := Row.new (World.alloc (World.drew q12) (.cells (nw 0).toArray 24)) 24 (nw 0); first | exact h_ | (simp only [alloc_sz] at h_; exact h_) | omega
    have hsg10 : q12.heap.size ≤ q12.heap.size + 1 := by have h_ := hHeld.1.size; first | exact h_ | (simp only [alloc_sz] at h_; exact h_) | omega
    have hng9g10 : q12.heap.size < q12.heap.size + 1 := by have h_ := hzg9.size; first | exact h_ | (simp only [alloc_sz] at h_; exact h_) | omega
    replace hzg9 := hzg9.on (below_alloc (Below.refl _ (World.alloc (World.drew q12) (.cells (nw 0).toArray 24))) (.cells (nw 0).toArray 24))
    refine hK.out _ _ ⟨below_alloc hHeld.1 _, (HC.out.on (below_alloc hHeld.1 _)).c3⟩ (fun hHeld => ?_)
    clear hK K
    refine nm_ (some 10) ?_
    refine on1_ 5 (some 39) (bs 16 14335) rfl fun K hK => ?_
    refine gF_ Try.func53 gf (numV x1) (numV t2) rfl ?_
    with_reducible refine (K5.out _ (HF.out.on hHeld.1)).mono ?_
    rintro e u13 ⟨rfl, hb_u13⟩
    refine ⟨_, rfl, ?_⟩
    have hq_u13 := bl_on hHeld.1 hb_u13 hHeld.1.size
    replace hzg9 := hzg9.on hb_u13
    replace hzg10 := hzg10.on hb_u13
    refine hK.out _ _ ⟨hq_u13, (HC.out.on (hq_u13)).c3⟩ (fun hHeld => ?_)
    clear hK K
    refine nm_ (some 39) ?_
    refine on1_ 11 (some 45) (bs 16 16383) rfl fun K hK => ?_
    refine gF_ Try.func53 gf (numV x2) (numV t1) rfl ?_
    with_reducible refine (K6.out _ (HF.out.on hHeld.1)).mono ?_
    rintro e u14 ⟨rfl, hb_u14⟩
    refine ⟨_, rfl, ?_⟩
    have hq_u14 := bl_on hHeld.1 hb_u14 hHeld.1.size
    replace hzg9 := hzg9.on hb_u14
    replace hzg10 := hzg10.on hb_u14
    refine hK.out _ _ ⟨hq_u14, (HC.out.on (hq_u14)).c3⟩ (fun hHeld => ?_)
    clear hK K
    refine nm_ (some 45) ?_
    exact norm_ (by simp only [putAll, aS]) (hCont (q12.heap.size, q12.heap.size + 1) _ ⟨hHeld.1, hzg9, hsg9, hzg10, hsg10, Nat.ne_of_lt hng9g10⟩)
  ·skip
   refine value_ (w1 := ?_) (v := ?_) (by rfl) rfl ?_ ?_
   rotate_left 2
   ·go_simp
    constructor
    ·rfl
    ·rfl
   have hzg10 : NAt (World.alloc (World.drew q12) (.cells (nw 0).toArray 24)) (q12.heap.size) 0 := by have h_ := Row.new (World.drew q12) 24 (nw 0); first | exact h_ | (simp only [alloc_sz] at h_; exact h_) | omega
   have hsg10 : q12.heap.size ≤ q12.heap.size := by have h_ := hHeld.1.size; first | exact h_ | (simp only [alloc_sz] at h_; exact h_) | omega
   refine hK.out _ _ ⟨below_alloc hHeld.1 _, (HC.out.on (below_alloc hHeld.1 _)).c3⟩ (fun hHeld => ?_)
   clear hK K
   refine nm_ (some 10) ?_
   refine tw_ 5 12 (some 39) (some 9) (bs 16 10239) (bs 16 14303) rfl rfl (fun K hK => ?_) (fun K hK => ?_)
   ·skip
    refine gF_ Try.func53 gf (numV x1) (numV t2) rfl ?_
    with_reducible refine (K5.out _ (HF.out.on hHeld.1)).mono ?_
    rintro e u13 ⟨rfl, hb_u13⟩
    refine ⟨_, rfl, ?_⟩
    have hq_u13 := bl_on hHeld.1 hb_u13 hHeld.1.size
    replace hzg10 := hzg10.on hb_u13
    refine hK.out _ _ ⟨hq_u13, (HC.out.on (hq_u13)).c3⟩ (fun hHeld => ?_)
    clear hK K
    refine nm_ (some 39) ?_
    refine tw_ 11 12 (some 45) (some 9) (bs 16 12287) (bs 16 14335) rfl rfl (fun K hK => ?_) (fun K hK => ?_)
    ·skip
     refine gF_ Try.func53 gf (numV x2) (numV t1) rfl ?_
     with_reducible refine (K6.out _ (HF.out.on hHeld.1)).mono ?_
     rintro e u14 ⟨rfl, hb_u14⟩
     refine ⟨_, rfl, ?_⟩
     have hq_u14 := bl_on hHeld.1 hb_u14 hHeld.1.size
     replace hzg10 := hzg10.on hb_u14
     refine hK.out _ _ ⟨hq_u14, (HC.out.on (hq_u14)).c3⟩ (fun hHeld => ?_)
     clear hK K
     refine nm_ (some 45) ?_
     refine on1_ 12 (some 9) (bs 16 16383) rfl fun K hK => ?_
     refine value_ (w1 := ?_) (v := ?_) (by rfl) rfl ?_ ?_
     rotate_left 2
     ·go_simp
      constructor
      ·rfl
      ·rfl
     have hzg9 : NAt (World.alloc u14 (.cells (nw 0).toArray 24)) (u14.heap.size) 0 := by have h_ := Row.new u14 24 (nw 0); first | exact h_ | (simp only [alloc_sz] at h_; exact h_) | omega
     have hsg9 : q12.heap.size ≤ u14.heap.size := by have h_ := hHeld.1.size; first | exact h_ | (simp only [alloc_sz] at h_; exact h_) | omega
     have hng10g9 : q12.heap.size < u14.heap.size := by have h_ := hzg10.size; first | exact h_ | (simp only [alloc_sz] at h_; exact h_) | omega
     replace hzg10 := hzg10.on (below_alloc (Below.refl _ u14) (.cells (nw 0).toArray 24))
     refine hK.out _ _ ⟨below_alloc hHeld.1 _, (HC.out.on (below_alloc hHeld.1 _)).c3⟩ (fun hHeld => ?_)
     clear hK K
     refine nm_ (some 9) ?_
     exact norm_ (by simp only [putAll, aS]) (hCont (u14.heap.size, q12.heap.size) _ ⟨hHeld.1, hzg9, hsg9, hzg10, hsg10, Nat.ne_of_gt hng10g9⟩)
    ·skip
     refine value_ (w1 := ?_) (v := ?_) (by rfl) rfl ?_ ?_
     rotate_left 2
     ·go_simp
      constructor
      ·rfl
      ·rfl
     have hzg9 : NAt (World.alloc u13 (.cells (nw 0).toArray 24)) (u13.heap.size) 0 := by have h_ := Row.new u13 24 (nw 0); first | exact h_ | (simp only [alloc_sz] at h_; exact h_) | omega
     have hsg9 : q12.heap.size ≤ u13.heap.size := by have h_ := hHeld.1.size; first | exact h_ | (simp only [alloc_sz] at h_; exact h_) | omega
     have hng10g9 : q12.heap.size < u13.heap.size := by have h_ := hzg10.size; first | exact h_ | (simp only [alloc_sz] at h_; exact h_) | omega
     replace hzg10 := hzg10.on (below_alloc (Below.refl _ u13) (.cells (nw 0).toArray 24))
     refine hK.out _ _ ⟨below_alloc hHeld.1 _, (HC.out.on (below_alloc hHeld.1 _)).c3⟩ (fun hHeld => ?_)
     clear hK K
     refine nm_ (some 9) ?_
     refine on1_ 11 (some 45) (bs 16 16383) rfl fun K hK => ?_
     refine gF_ Try.func53 gf (numV x2) (numV t1) rfl ?_
     with_reducible refine (K6.out _ (HF.out.on hHeld.1)).mono ?_
     rintro e u14 ⟨rfl, hb_u14⟩
     refine ⟨_, rfl, ?_⟩
     have hq_u14 := bl_on hHeld.1 hb_u14 hHeld.1.size
     replace hzg10 := hzg10.on hb_u14
     replace hzg9 := hzg9.on hb_u14
     refine hK.out _ _ ⟨hq_u14, (HC.out.on (hq_u14)).c3⟩ (fun hHeld => ?_)
     clear hK K
     refine nm_ (some 45) ?_
     exact norm_ (by simp only [putAll, aS]) (hCont (u13.heap.size, q12.heap.size) _ ⟨hHeld.1, hzg9, hsg9, hzg10, hsg10, Nat.ne_of_gt hng10g9⟩)
   ·skip
    refine value_ (w1 := ?_) (v := ?_) (by rfl) rfl ?_ ?_
    rotate_left 2
    ·go_simp
     constructor
     ·rfl
     ·rfl
    have hzg9 : NAt (World.alloc (World.alloc (World.drew q12) (.cells (nw 0).toArray 24)) (.cells (nw 0).toArray 24)) (q12.heap.size + 1) 0 := by have h_ := Row.new (World.alloc (World.drew q12) (.cells (nw 0).toArray 24)) 24 (nw 0); first | exact h_ | (simp only [alloc_sz] at h_; exact h_) | omega
    have hsg9 : q12.heap.size ≤ q12.heap.size + 1 := by have h_ := hHeld.1.size; first | exact h_ | (simp only [alloc_sz] at h_; exact h_) | omega
    have hng10g9 : q12.heap.size < q12.heap.size + 1 := by have h_ := hzg10.size; first | exact h_ | (simp only [alloc_sz] at h_; exact h_) | omega
    replace hzg10 := hzg10.on (below_alloc (Below.refl _ (World.alloc (World.drew q12) (.cells (nw 0).toArray 24))) (.cells (nw 0).toArray 24))
    refine hK.out _ _ ⟨below_alloc hHeld.1 _, (HC.out.on (below_alloc hHeld.1 _)).c3⟩ (fun hHeld => ?_)
    clear hK K
    refine nm_ (some 9) ?_
    refine on1_ 5 (some 39) (bs 16 14335) rfl fun K hK => ?_
    refine gF_ Try.func53 gf (numV x1) (numV t2) rfl ?_
    with_reducible refine (K5.out _ (HF.out.on hHeld.1)).mono ?_
    rintro e u13 ⟨rfl, hb_u13⟩
    refine ⟨_, rfl, ?_⟩
    have hq_u13 := bl_on hHeld.1 hb_u13 hHeld.1.size
    replace hzg10 := hzg10.on hb_u13
    replace hzg9 := hzg9.on hb_u13
    refine hK.out _ _ ⟨hq_u13, (HC.out.on (hq_u13)).c3⟩ (fun hHeld => ?_)
    clear hK K
    refine nm_ (some 39) ?_
    refine on1_ 11 (some 45) (bs 16 16383) rfl fun K hK => ?_
    refine gF_ Try.func53 gf (numV x2) (numV t1) rfl ?_
    with_reducible refine (K6.out _ (HF.out.on hHeld.1)).mono ?_
    rintro e u14 ⟨rfl, hb_u14⟩
    refine ⟨_, rfl, ?_⟩
    have hq_u14 := bl_on hHeld.1 hb_u14 hHeld.1.size
    replace hzg10 := hzg10.on hb_u14
    replace hzg9 := hzg9.on hb_u14
    refine hK.out _ _ ⟨hq_u14, (HC.out.on (hq_u14)).c3⟩ (fun hHeld => ?_)
    clear hK K
    refine nm_ (some 45) ?_
    exact norm_ (by simp only [putAll, aS]) (hCont (q12.heap.size + 1, q12.heap.size) _ ⟨hHeld.1, hzg9, hsg9, hzg10, hsg10, Nat.ne_of_gt hng10g9⟩)
 rintro ⟨g9, g10⟩ v15 ⟨hHeld0, hzg9, hsg9, hzg10, hsg10, hneg9g10⟩
 have hHeld : Below q12.heap.size q12 v15 ∧ v15.cell? ⟨w.heap.size, 3, none⟩ = some (mthV 53 gf) := ⟨hHeld0, (HC.out.on (hHeld0)).c3⟩
 clear hHeld0
 refine norm_ (a' := ?_) ?_ ?_
 rotate_left
 ·simp only [putAll, aS]
  rfl
 refine on1_ 14 none (bs 16 32767) rfl fun K hK => ?_
 refine skip_num (hzg9) (by rfl) rfl (.tmp 9) (.tmp 39) rfl rfl rfl ?_
 intro q16 hA_q16 hT_q16
 refine hK.out _ _ ⟨bl_but hHeld.1 hT_q16 hHeld.1.size hsg9, (HC.out.on (bl_but hHeld.1 hT_q16 hHeld.1.size hsg9)).c3⟩ (fun hHeld => ?_)
 clear hK K
 refine last_ (i := 15) (N := none) (bs 16 65535) rfl rfl (by kernel_rfl) (by decide) (fun K hK => ?_)
 refine skip_num ((hzg10).but hT_q16 hneg9g10.symm) (by rfl) rfl (.tmp 10) (.tmp 45) rfl rfl rfl ?_
 intro q17 hA_q17 hT_q17
 refine hK.out _ _ ?_
 clear hK K
 refine done_ (by kernel_rfl) ?_
 have HXg9 : Aside0 (w.heap.size + 1 + 1 + 1 + 1 ≤ g9 ∧ g7 < g9 ∧ g8 < g9) := Aside0.mk (⟨Nat.le_trans HS.out hsg9, Nat.lt_of_lt_of_le Hg7.out.size hsg9, Nat.lt_of_lt_of_le Hg8.out.size hsg9⟩)
 have HXg10 : Aside0 (w.heap.size + 1 + 1 + 1 + 1 ≤ g10 ∧ g7 < g10 ∧ g8 < g10) := Aside0.mk (⟨Nat.le_trans HS.out hsg10, Nat.lt_of_lt_of_le Hg7.out.size hsg10, Nat.lt_of_lt_of_le Hg8.out.size hsg10⟩)
 have HXg9g10 : Aside0 (g9 ≠ g10) := Aside0.mk hneg9g10
 replace HC := Aside0.mk (HC.out.on hHeld.1)
 replace HP1 := Aside0.mk (HP1.out.on hHeld.1)
 replace HP2 := Aside0.mk (HP2.out.on hHeld.1)
 replace HR := Aside0.mk (HR.out.on hHeld.1)
 replace Hg7 := Aside0.mk (Hg7.out.on hHeld.1)
 replace Hg8 := Aside0.mk (Hg8.out.on hHeld.1)
 replace HF := Aside0.mk (HF.out.on hHeld.1)
 replace HB := Aside0.mk (bl_on HB.out hHeld.1 HB.out.size)
 replace HS := Aside0.mk (Nat.le_trans HS.out hHeld.1.size)
 have Hg9 := Aside0.mk hA_q16
 replace HC := Aside0.mk (HC.out.but hT_q17 (by have := HXg7.out; have := HXg8.out; have := HXg9.out; have := HXg10.out; have := HXg7g8.out; have := HXg9g10.out; have := HG.out; omega))
 replace HP1 := Aside0.mk (HP1.out.but hT_q17 (by have := HXg7.out; have := HXg8.out; have := HXg9.out; have := HXg10.out; have := HXg7g8.out; have := HXg9g10.out; have := HG.out; omega))
 replace HP2 := Aside0.mk (HP2.out.but hT_q17 (by have := HXg7.out; have := HXg8.out; have := HXg9.out; have := HXg10.out; have := HXg7g8.out; have := HXg9g10.out; have := HG.out; omega))
 replace HR := Aside0.mk (HR.out.but hT_q17 (by have := HXg7.out; have := HXg8.out; have := HXg9.out; have := HXg10.out; have := HXg7g8.out; have := HXg9g10.out; have := HG.out; omega))
 replace Hg7 := Aside0.mk (Hg7.out.but hT_q17 (by have := HXg7.out; have := HXg8.out; have := HXg9.out; have := HXg10.out; have := HXg7g8.out; have := HXg9g10.out; have := HG.out; omega))
 replace Hg8 := Aside0.mk (Hg8.out.but hT_q17 (by have := HXg7.out; have := HXg8.out; have := HXg9.out; have := HXg10.out; have := HXg7g8.out; have := HXg9g10.out; have := HG.out; omega))
 replace Hg9 := Aside0.mk (Hg9.out.but hT_q17 (by have := HXg7.out; have := HXg8.out; have := HXg9.out; have := HXg10.out; have := HXg7g8.out; have := HXg9g10.out; have := HG.out; omega))
 replace HF := Aside0.mk (HF.out.but hT_q17 (by have := HXg7.out; have := HXg8.out; have := HXg9.out; have := HXg10.out; have := HXg7g8.out; have := HXg9g10.out; have := HG.out; omega))
 have Hg10 := Aside0.mk hA_q17
 replace HB := Aside0.mk (bl_but HB.out hT_q17 HB.out.size (by have := HXg7.out; have := HXg8.out; have := HXg9.out; have := HXg10.out; have := HXg7g8.out; have := HXg9g10.out; have := HG.out; omega))
 replace HS := Aside0.mk (Nat.le_trans HS.out hT_q17.size)
 clear hA_q16 hT_q16 hA_q17 hT_q17 hzg9 hsg9 hzg10 hsg10 hneg9g10 hHeld
 go_wp2
 refine start_ (n := 26) (S := fun w' => Below q17.heap.size q17 w' ∧ w'.cell? ⟨w.heap.size, 3, none⟩ = some (mthV 53 gf)) (ds := [25]) (bs 26 0) (by kernel_rfl) rfl rfl ⟨(Below.refl _ _).drew, HC.out.c3⟩ (fun hHeld => ?_)
 refine pu_ 0 46 (bs 26 1) ?_ ?_ ?_ ?_ ?_
 rotate_left
 ·intro w'
  go_simp
  with_reducible rfl
 rotate_left
 ·simp only [aS, i64_w, i32_w]
  rfl
 refine pu_ 2 48 (bs 26 5) ?_ ?_ ?_ ?_ ?_
 rotate_left
 ·intro w'
  go_simp
  with_reducible rfl
 rotate_left
 ·simp only [aS, i64_w, i32_w]
  rfl
 refine pu_ 4 50 (bs 26 21) ?_ ?_ ?_ ?_ ?_
 rotate_left
 ·intro w'
  go_simp
  with_reducible rfl
 rotate_left
 ·simp only [aS, i64_w, i32_w]
  rfl
 refine pu_ 7 53 (bs 26 149) ?_ ?_ ?_ ?_ ?_
 rotate_left
 ·intro w'
  go_simp
  with_reducible rfl
 rotate_left
 ·simp only [aS, i64_w, i32_w]
  rfl
 refine pu_ 11 57 (bs 26 2197) ?_ ?_ ?_ ?_ ?_
 rotate_left
 ·intro w'
  go_simp
  with_reducible rfl
 rotate_left
 ·simp only [aS, i64_w, i32_w]
  rfl
 refine pu_ 13 59 (bs 26 10389) ?_ ?_ ?_ ?_ ?_
 rotate_left
 ·intro w'
  go_simp
  with_reducible rfl
 rotate_left
 ·simp only [aS, i64_w, i32_w]
  rfl
 refine pu_ 15 61 (bs 26 43157) ?_ ?_ ?_ ?_ ?_
 rotate_left
 ·intro w'
  go_simp
  with_reducible rfl
 rotate_left
 ·simp only [aS, i64_w, i32_w]
  rfl
 refine pu_ 18 64 (bs 26 305301) ?_ ?_ ?_ ?_ ?_
 rotate_left
 ·intro w'
  go_simp
  with_reducible rfl
 rotate_left
 ·simp only [aS, i64_w, i32_w]
  rfl
 refine tk_ 1 47 (bs 26 305303) ?_ ?_ hHeld ?_ ?_ ?_
 rotate_left
 ·rintro w' ⟨s0, s1⟩
  go_simp
  with_reducible rfl
 rotate_left
 ·simp only [aS, i64_w, i32_w]
  rfl
 refine take_ (i := 3) (N := some 49) (a' := ?_) (bs 26 305311) rfl rfl (by kernel_rfl) (fun _ _ _ h => h) (yields_num (g := w.heap.size + 1) (o := 4) (n := y1) (by rfl) (.tmp 48) rfl rfl (fun w' hS => (HP1.out.on hS.1).ry)) hHeld ?_ ?_
 rotate_left
 ·simp only [aS, i64_w, i32_w]
  rfl
 refine tk_ 5 51 (bs 26 305343) ?_ ?_ hHeld ?_ ?_ ?_
 rotate_left
 ·rintro w' ⟨s0, s1⟩
  go_simp
  with_reducible rfl
 rotate_left
 ·simp only [aS, i64_w, i32_w]
  rfl
 refine take_ (i := 6) (N := some 52) (a' := ?_) (bs 26 305407) rfl rfl (by kernel_rfl) (fun _ _ _ h => h) (yields_num (g := g8) (o := 0) (n := t2) (by rfl) (.tmp 8) rfl rfl (fun w' hS => (Hg8.out.on hS.1).range)) hHeld ?_ ?_
 rotate_left
 ·simp only [aS, i64_w, i32_w]
  rfl
 refine take_ (i := 8) (N := some 54) (a' := ?_) (bs 26 305663) rfl rfl (by kernel_rfl) (fun _ _ _ h => h) (yields_num (g := w.heap.size + 1 + 1) (o := 8) (n := z2) (by rfl) (.tmp 53) rfl rfl (fun w' hS => (HP2.out.on hS.1).rz)) hHeld ?_ ?_
 rotate_left
 ·simp only [aS, i64_w, i32_w]
  rfl
 refine tk_ 12 58 (bs 26 309759) ?_ ?_ hHeld ?_ ?_ ?_
 rotate_left
 ·rintro w' ⟨s0, s1⟩
  go_simp
  with_reducible rfl
 rotate_left
 ·simp only [aS, i64_w, i32_w]
  rfl
 refine take_ (i := 14) (N := some 60) (a' := ?_) (bs 26 326143) rfl rfl (by kernel_rfl) (fun _ _ _ h => h) (yields_num (g := w.heap.size + 1 + 1) (o := 4) (n := y2) (by rfl) (.tmp 59) rfl rfl (fun w' hS => (HP2.out.on hS.1).ry)) hHeld ?_ ?_
 rotate_left
 ·simp only [aS, i64_w, i32_w]
  rfl
 refine tk_ 16 62 (bs 26 391679) ?_ ?_ hHeld ?_ ?_ ?_
 rotate_left
 ·rintro w' ⟨s0, s1⟩
  go_simp
  with_reducible rfl
 rotate_left
 ·simp only [aS, i64_w, i32_w]
  rfl
 refine take_ (i := 17) (N := some 63) (a' := ?_) (bs 26 522751) rfl rfl (by kernel_rfl) (fun _ _ _ h => h) (yields_num (g := g7) (o := 0) (n := t1) (by rfl) (.tmp 7) rfl rfl (fun w' hS => (Hg7.out.on hS.1).range)) hHeld ?_ ?_
 rotate_left
 ·simp only [aS, i64_w, i32_w]
  rfl
 refine take_ (i := 19) (N := some 65) (a' := ?_) (bs 26 1047039) rfl rfl (by kernel_rfl) (fun _ _ _ h => h) (yields_num (g := w.heap.size + 1) (o := 8) (n := z1) (by rfl) (.tmp 64) rfl rfl (fun w' hS => (HP1.out.on hS.1).rz)) hHeld ?_ ?_
 rotate_left
 ·simp only [aS, i64_w, i32_w]
  rfl
 refine join_ (σ := Nat × Nat) 2 (bs 26 16777215) (fun s => [(11, .pointer (some ⟨s.1, 0, none⟩)), (12, .pointer (some ⟨s.2, 0, none⟩)), (55, numV t5), (56, numV t6), (66, numV t7), (67, numV t8)]) (fun s w' => Below q17.heap.size q17 w' ∧ NAt w' s.1 0 ∧ q17.heap.size ≤ s.1 ∧ NAt w' s.2 0 ∧ q17.heap.size ≤ s.2 ∧ s.1 ≠ s.2) ?_ ?_
 rotate_left
 ·intro hCont
  refine three_ (i := 9) (j := 22) (k := 23) (Ni := some 55) (Nj := some 11) (Nk := some 12) (bs 26 1047551) (bs 26 5241343) (bs 26 9435647) rfl rfl rfl rfl rfl rfl (by kernel_rfl) (by decide) (by decide) (by decide) (fun K hK => ?_) (fun K hK => ?_) (fun K hK => ?_)
  ·skip
   refine gF_ Try.func53 gf (numV t2) (numV z2) rfl ?_
   with_reducible refine (K7.out _ (HF.out.on hHeld.1)).mono ?_
   rintro e u18 ⟨rfl, hb_u18⟩
   refine ⟨_, rfl, ?_⟩
   have hq_u18 := bl_on hHeld.1 hb_u18 hHeld.1.size
   refine hK.out _ _ ⟨hq_u18, (HC.out.on (hq_u18)).c3⟩ (fun hHeld => ?_)
   clear hK K
   refine nm_ (some 55) ?_
   refine three_ (i := 10) (j := 22) (k := 23) (Ni := some 56) (Nj := some 11) (Nk := some 12) (bs 26 1048575) (bs 26 5241855) (bs 26 9436159) rfl rfl rfl rfl rfl rfl (by kernel_rfl) (by decide) (by decide) (by decide) (fun K hK => ?_) (fun K hK => ?_) (fun K hK => ?_)
   ·skip
    refine gF_ Try.func53 gf (numV y1) (numV t5) rfl ?_
    with_reducible refine (K8.out _ (HF.out.on hHeld.1)).mono ?_
    rintro e u19 ⟨rfl, hb_u19⟩
    refine ⟨_, rfl, ?_⟩
    have hq_u19 := bl_on hHeld.1 hb_u19 hHeld.1.size
    refine hK.out _ _ ⟨hq_u19, (HC.out.on (hq_u19)).c3⟩ (fun hHeld => ?_)
    clear hK K
    refine nm_ (some 56) ?_
    refine three_ (i := 20) (j := 22) (k := 23) (Ni := some 66) (Nj := some 11) (Nk := some 12) (bs 26 2097151) (bs 26 5242879) (bs 26 9437183) rfl rfl rfl rfl rfl rfl (by kernel_rfl) (by decide) (by decide) (by decide) (fun K hK => ?_) (fun K hK => ?_) (fun K hK => ?_)
    ·skip
     refine gF_ Try.func53 gf (numV t1) (numV z1) rfl ?_
     with_reducible refine (K9.out _ (HF.out.on hHeld.1)).mono ?_
     rintro e u20 ⟨rfl, hb_u20⟩
     refine ⟨_, rfl, ?_⟩
     have hq_u20 := bl_on hHeld.1 hb_u20 hHeld.1.size
     refine hK.out _ _ ⟨hq_u20, (HC.out.on (hq_u20)).c3⟩ (fun hHeld => ?_)
     clear hK K
     refine nm_ (some 66) ?_
     refine three_ (i := 21) (j := 22) (k := 23) (Ni := some 67) (Nj := some 11) (Nk := some 12) (bs 26 4194303) (bs 26 6291455) (bs 26 10485759) rfl rfl rfl rfl rfl rfl (by kernel_rfl) (by decide) (by decide) (by decide) (fun K hK => ?_) (fun K hK => ?_) (fun K hK => ?_)
     ·skip
      refine gF_ Try.func53 gf (numV y2) (numV t7) rfl ?_
      with_reducible refine (K10.out _ (HF.out.on hHeld.1)).mono ?_
      rintro e u21 ⟨rfl, hb_u21⟩
      refine ⟨_, rfl, ?_⟩
      have hq_u21 := bl_on hHeld.1 hb_u21 hHeld.1.size
      refine hK.out _ _ ⟨hq_u21, (HC.out.on (hq_u21)).c3⟩ (fun hHeld => ?_)
      clear hK K
      refine nm_ (some 67) ?_
      refine tw_ 22 23 (some 11) (some 12) (bs 26 8388607) (bs 26 12582911) rfl rfl (fun K hK => ?_) (fun K hK => ?_)
      ·skip
       refine value_ (w1 := ?_) (v := ?_) (by rfl) rfl ?_ ?_
       rotate_left 2
       ·go_simp
        constructor
        ·rfl
        ·rfl
       have hzg11 : NAt (World.alloc u21 (.cells (nw 0).toArray 24)) (u21.heap.size) 0 := by have h_ := Row.new u21 24 (nw 0); first | exact h_ | (simp only [alloc_sz] at h_; exact h_) | omega
       have hsg11 : q17.heap.size ≤ u21.heap.size := by have h_ := hHeld.1.size; first | exact h_ | (simp only [alloc_sz] at h_; exact h_) | omega
       refine hK.out _ _ ⟨below_alloc hHeld.1 _, (HC.out.on (below_alloc hHeld.1 _)).c3⟩ (fun hHeld => ?_)
       clear hK K
       refine nm_ (some 11) ?_
       refine on1_ 23 (some 12) (bs 26 16777215) rfl fun K hK => ?_
       refine value_ (w1 := ?_) (v := ?_) (by rfl) rfl ?_ ?_
       rotate_left 2
       ·go_simp
        constructor
        ·rfl
        ·rfl
       have hzg12 : NAt (World.alloc (World.alloc u21 (.cells (nw 0).toArray 24)) (.cells (nw 0).toArray 24)) (u21.heap.size + 1) 0 := by have h_ := Row.new (World.alloc u21 (.cells (nw 0).toArray 24)) 24 (nw 0); first | exact h_ | (simp only [alloc_sz] at h_; exact h_) | omega
       have hsg12 : q17.heap.size ≤ u21.heap.size + 1 := by have h_ := hHeld.1.size; first | exact h_ | (simp only [alloc_sz] at h_; exact h_) | omega
       have hng11g12 : u21.heap.size < u21.heap.size + 1 := by have h_ := hzg11.size; first | exact h_ | (simp only [alloc_sz] at h_; exact h_) | omega
       replace hzg11 := hzg11.on (below_alloc (Below.refl _ (World.alloc u21 (.cells (nw 0).toArray 24))) (.cells (nw 0).toArray 24))
       refine hK.out _ _ ⟨below_alloc hHeld.1 _, (HC.out.on (below_alloc hHeld.1 _)).c3⟩ (fun hHeld => ?_)
       clear hK K
       refine nm_ (some 12) ?_
       exact norm_ (by simp only [putAll, aS]) (hCont (u21.heap.size, u21.heap.size + 1) _ ⟨hHeld.1, hzg11, hsg11, hzg12, hsg12, Nat.ne_of_lt hng11g12⟩)
      ·skip
       refine value_ (w1 := ?_) (v := ?_) (by rfl) rfl ?_ ?_
       rotate_left 2
       ·go_simp
        constructor
        ·rfl
        ·rfl
       have hzg12 : NAt (World.alloc u21 (.cells (nw 0).toArray 24)) (u21.heap.size) 0 := by have h_ := Row.new u21 24 (nw 0); first | exact h_ | (simp only [alloc_sz] at h_; exact h_) | omega
       have hsg12 : q17.heap.size ≤ u21.heap.size := by have h_ := hHeld.1.size; first | exact h_ | (simp only [alloc_sz] at h_; exact h_) | omega
       refine hK.out _ _ ⟨below_alloc hHeld.1 _, (HC.out.on (below_alloc hHeld.1 _)).c3⟩ (fun hHeld => ?_)
       clear hK K
       refine nm_ (some 12) ?_
       refine on1_ 22 (some 11) (bs 26 16777215) rfl fun K hK => ?_
       refine value_ (w1 := ?_) (v := ?_) (by rfl) rfl ?_ ?_
       rotate_left 2
       ·go_simp
        constructor
        ·rfl
        ·rfl
       have hzg11 : NAt (World.alloc (World.alloc u21 (.cells (nw 0).toArray 24)) (.cells (nw 0).toArray 24)) (u21.heap.size + 1) 0 := by have h_ := Row.new (World.alloc u21 (.cells (nw 0).toArray 24)) 24 (nw 0); first | exact h_ | (simp only [alloc_sz] at h_; exact h_) | omega
       have hsg11 : q17.heap.size ≤ u21.heap.size + 1 := by have h_ := hHeld.1.size; first | exact h_ | (simp only [alloc_sz] at h_; exact h_) | omega
       have hng12g11 : u21.heap.size < u21.heap.size + 1 := by have h_ := hzg12.size; first | exact h_ | (simp only [alloc_sz] at h_; exact h_) | omega
       replace hzg12 := hzg12.on (below_alloc (Below.refl _ (World.alloc u21 (.cells (nw 0).toArray 24))) (.cells (nw 0).toArray 24))
       refine hK.out _ _ ⟨below_alloc hHeld.1 _, (HC.out.on (below_alloc hHeld.1 _)).c3⟩ (fun hHeld => ?_)
       clear hK K
       refine nm_ (some 11) ?_
       exact norm_ (by simp only [putAll, aS]) (hCont (u21.heap.size + 1, u21.heap.size) _ ⟨hHeld.1, hzg11, hsg11, hzg12, hsg12, Nat.ne_of_gt hng12g11⟩)
     ·skip
      refine value_ (w1 := ?_) (v := ?_) (by rfl) rfl ?_ ?_
      rotate_left 2
      ·go_simp
       constructor
       ·rfl
       ·rfl
      have hzg11 : NAt (World.alloc u20 (.cells (nw 0).toArray 24)) (u20.heap.size) 0 := by have h_ := Row.new u20 24 (nw 0); first | exact h_ | (simp only [alloc_sz] at h_; exact h_) | omega
      have hsg11 : q17.heap.size ≤ u20.heap.size := by have h_ := hHeld.1.size; first | exact h_ | (simp only [alloc_sz] at h_; exact h_) | omega
      refine hK.out _ _ ⟨below_alloc hHeld.1 _, (HC.out.on (below_alloc hHeld.1 _)).c3⟩ (fun hHeld => ?_)
      clear hK K
      refine nm_ (some 11) ?_
      refine tw_ 21 23 (some 67) (some 12) (bs 26 8388607) (bs 26 14680063) rfl rfl (fun K hK => ?_) (fun K hK => ?_)
      ·skip
       refine gF_ Try.func53 gf (numV y2) (numV t7) rfl ?_
       with_reducible refine (K10.out _ (HF.out.on hHeld.1)).mono ?_
       rintro e u21 ⟨rfl, hb_u21⟩
       refine ⟨_, rfl, ?_⟩
       have hq_u21 := bl_on hHeld.1 hb_u21 hHeld.1.size
       replace hzg11 := hzg11.on hb_u21
       refine hK.out _ _ ⟨hq_u21, (HC.out.on (hq_u21)).c3⟩ (fun hHeld => ?_)
       clear hK K
       refine nm_ (some 67) ?_
       refine on1_ 23 (some 12) (bs 26 16777215) rfl fun K hK => ?_
       refine value_ (w1 := ?_) (v := ?_) (by rfl) rfl ?_ ?_
       rotate_left 2
       ·go_simp
        constructor
        ·rfl
        ·rfl
       have hzg12 : NAt (World.alloc u21 (.cells (nw 0).toArray 24)) (u21.heap.size) 0 := by have h_ := Row.new u21 24 (nw 0); first | exact h_ | (simp only [alloc_sz] at h_; exact h_) | omega
       have hsg12 : q17.heap.size ≤ u21.heap.size := by have h_ := hHeld.1.size; first | exact h_ | (simp only [alloc_sz] at h_; exact h_) | omega
       have hng11g12 : u20.heap.size < u21.heap.size := by have h_ := hzg11.size; first | exact h_ | (simp only [alloc_sz] at h_; exact h_) | omega
       replace hzg11 := hzg11.on (below_alloc (Below.refl _ u21) (.cells (nw 0).toArray 24))
       refine hK.out _ _ ⟨below_alloc hHeld.1 _, (HC.out.on (below_alloc hHeld.1 _)).c3⟩ (fun hHeld => ?_)
       clear hK K
       refine nm_ (some 12) ?_
       exact norm_ (by simp only [putAll, aS]) (hCont (u20.heap.size, u21.heap.size) _ ⟨hHeld.1, hzg11, hsg11, hzg12, hsg12, Nat.ne_of_lt hng11g12⟩)
      ·skip
       refine value_ (w1 := ?_) (v := ?_) (by rfl) rfl ?_ ?_
       rotate_left 2
       ·go_simp
        constructor
        ·rfl
        ·rfl
       have hzg12 : NAt (World.alloc (World.alloc u20 (.cells (nw 0).toArray 24)) (.cells (nw 0).toArray 24)) (u20.heap.size + 1) 0 := by have h_ := Row.new (World.alloc u20 (.cells (nw 0).toArray 24)) 24 (nw 0); first | exact h_ | (simp only [alloc_sz] at h_; exact h_) | omega
       have hsg12 : q17.heap.size ≤ u20.heap.size + 1 := by have h_ := hHeld.1.size; first | exact h_ | (simp only [alloc_sz] at h_; exact h_) | omega
       have hng11g12 : u20.heap.size < u20.heap.size + 1 := by have h_ := hzg11.size; first | exact h_ | (simp only [alloc_sz] at h_; exact h_) | omega
       replace hzg11 := hzg11.on (below_alloc (Below.refl _ (World.alloc u20 (.cells (nw 0).toArray 24))) (.cells (nw 0).toArray 24))
       refine hK.out _ _ ⟨below_alloc hHeld.1 _, (HC.out.on (below_alloc hHeld.1 _)).c3⟩ (fun hHeld => ?_)
       clear hK K
       refine nm_ (some 12) ?_
       refine on1_ 21 (some 67) (bs 26 16777215) rfl fun K hK => ?_
       refine gF_ Try.func53 gf (numV y2) (numV t7) rfl ?_
       with_reducible refine (K10.out _ (HF.out.on hHeld.1)).mono ?_
       rintro e u21 ⟨rfl, hb_u21⟩
       refine ⟨_, rfl, ?_⟩
       have hq_u21 := bl_on hHeld.1 hb_u21 hHeld.1.size
       replace hzg11 := hzg11.on hb_u21
       replace hzg12 := hzg12.on hb_u21
       refine hK.out _ _ ⟨hq_u21, (HC.out.on (hq_u21)).c3⟩ (fun hHeld => ?_)
       clear hK K
       refine nm_ (some 67) ?_
       exact norm_ (by simp only [putAll, aS]) (hCont (u20.heap.size, u20.heap.size + 1) _ ⟨hHeld.1, hzg11, hsg11, hzg12, hsg12, Nat.ne_of_lt hng11g12⟩)
     ·skip
      refine value_ (w1 := ?_) (v := ?_) (by rfl) rfl ?_ ?_
      rotate_left 2
      ·go_simp
       constructor
       ·rfl
       ·rfl
      have hzg12 : NAt (World.alloc u20 (.cells (nw 0).toArray 24)) (u20.heap.size) 0 := by have h_ := Row.new u20 24 (nw 0); first | exact h_ | (simp only [alloc_sz] at h_; exact h_) | omega
      have hsg12 : q17.heap.size ≤ u20.heap.size := by have h_ := hHeld.1.size; first | exact h_ | (simp only [alloc_sz] at h_; exact h_) | omega
      refine hK.out _ _ ⟨below_alloc hHeld.1 _, (HC.out.on (below_alloc hHeld.1 _)).c3⟩ (fun hHeld => ?_)
      clear hK K
      refine nm_ (some 12) ?_
      refine tw_ 21 22 (some 67) (some 11) (bs 26 12582911) (bs 26 14680063) rfl rfl (fun K hK => ?_) (fun K hK => ?_)
      ·skip
       refine gF_ Try.func53 gf (numV y2) (numV t7) rfl ?_
       with_reducible refine (K10.out _ (HF.out.on hHeld.1)).mono ?_
       rintro e u21 ⟨rfl, hb_u21⟩
       refine ⟨_, rfl, ?_⟩
       have hq_u21 := bl_on hHeld.1 hb_u21 hHeld.1.size
       replace hzg12 := hzg12.on hb_u21
       refine hK.out _ _ ⟨hq_u21, (HC.out.on (hq_u21)).c3⟩ (fun hHeld => ?_)
       clear hK K
       refine nm_ (some 67) ?_
       refine on1_ 22 (some 11) (bs 26 16777215) rfl fun K hK => ?_
       refine value_ (w1 := ?_) (v := ?_) (by rfl) rfl ?_ ?_
       rotate_left 2
       ·go_simp
        constructor
        ·rfl
        ·rfl
       have hzg11 : NAt (World.alloc u21 (.cells (nw 0).toArray 24)) (u21.heap.size) 0 := by have h_ := Row.new u21 24 (nw 0); first | exact h_ | (simp only [alloc_sz] at h_; exact h_) | omega
       have hsg11 : q17.heap.size ≤ u21.heap.size := by have h_ := hHeld.1.size; first | exact h_ | (simp only [alloc_sz] at h_; exact h_) | omega
       have hng12g11 : u20.heap.size < u21.heap.size := by have h_ := hzg12.size; first | exact h_ | (simp only [alloc_sz] at h_; exact h_) | omega
       replace hzg12 := hzg12.on (below_alloc (Below.refl _ u21) (.cells (nw 0).toArray 24))
       refine hK.out _ _ ⟨below_alloc hHeld.1 _, (HC.out.on (below_alloc hHeld.1 _)).c3⟩ (fun hHeld => ?_)
       clear hK K
       refine nm_ (some 11) ?_
       exact norm_ (by simp only [putAll, aS]) (hCont (u21.heap.size, u20.heap.size) _ ⟨hHeld.1, hzg11, hsg11, hzg12, hsg12, Nat.ne_of_gt hng12g11⟩)
      ·skip
       refine value_ (w1 := ?_) (v := ?_) (by rfl) rfl ?_ ?_
       rotate_left 2
       ·go_simp
        constructor
        ·rfl
        ·rfl
       have hzg11 : NAt (World.alloc (World.alloc u20 (.cells (nw 0).toArray 24)) (.cells (nw 0).toArray 24)) (u20.heap.size + 1) 0 := by have h_ := Row.new (World.alloc u20 (.cells (nw 0).toArray 24)) 24 (nw 0); first | exact h_ | (simp only [alloc_sz] at h_; exact h_) | omega
       have hsg11 : q17.heap.size ≤ u20.heap.size + 1 := by have h_ := hHeld.1.size; first | exact h_ | (simp only [alloc_sz] at h_; exact h_) | omega
       have hng12g11 : u20.heap.size < u20.heap.size + 1 := by have h_ := hzg12.size; first | exact h_ | (simp only [alloc_sz] at h_; exact h_) | omega
       replace hzg12 := hzg12.on (below_alloc (Below.refl _ (World.alloc u20 (.cells (nw 0).toArray 24))) (.cells (nw 0).toArray 24))
       refine hK.out _ _ ⟨below_alloc hHeld.1 _, (HC.out.on (below_alloc hHeld.1 _)).c3⟩ (fun hHeld => ?_)
       clear hK K
       refine nm_ (some 11) ?_
       refine on1_ 21 (some 67) (bs 26 16777215) rfl fun K hK => ?_
       refine gF_ Try.func53 gf (numV y2) (numV t7) rfl ?_
       with_reducible refine (K10.out _ (HF.out.on hHeld.1)).mono ?_
       rintro e u21 ⟨rfl, hb_u21⟩
       refine ⟨_, rfl, ?_⟩
       have hq_u21 := bl_on hHeld.1 hb_u21 hHeld.1.size
       replace hzg12 := hzg12.on hb_u21
       replace hzg11 := hzg11.on hb_u21
       refine hK.out _ _ ⟨hq_u21, (HC.out.on (hq_u21)).c3⟩ (fun hHeld => ?_)
       clear hK K
       refine nm_ (some 67) ?_
       exact norm_ (by simp only [putAll, aS]) (hCont (u20.heap.size + 1, u20.heap.size) _ ⟨hHeld.1, hzg11, hsg11, hzg12, hsg12, Nat.ne_of_gt hng12g11⟩)
    ·skip
     refine value_ (w1 := ?_) (v := ?_) (by rfl) rfl ?_ ?_
     rotate_left 2
     ·go_simp
      constructor
      ·rfl
      ·rfl
     have hzg11 : NAt (World.alloc u19 (.cells (nw 0).toArray 24)) (u19.heap.size) 0 := by have h_ := Row.new u19 24 (nw 0); first | exact h_ | (simp only [alloc_sz] at h_; exact h_) | omega
     have hsg11 : q17.heap.size ≤ u19.heap.size := by have h_ := hHeld.1.size; first | exact h_ | (simp only [alloc_sz] at h_; exact h_) | omega
     refine hK.out _ _ ⟨below_alloc hHeld.1 _, (HC.out.on (below_alloc hHeld.1 _)).c3⟩ (fun hHeld => ?_)
     clear hK K
     refine nm_ (some 11) ?_
     refine tw_ 20 23 (some 66) (some 12) (bs 26 6291455) (bs 26 13631487) rfl rfl (fun K hK => ?_) (fun K hK => ?_)
     ·skip
      refine gF_ Try.func53 gf (numV t1) (numV z1) rfl ?_
      with_reducible refine (K9.out _ (HF.out.on hHeld.1)).mono ?_
      rintro e u20 ⟨rfl, hb_u20⟩
      refine ⟨_, rfl, ?_⟩
      have hq_u20 := bl_on hHeld.1 hb_u20 hHeld.1.size
      replace hzg11 := hzg11.on hb_u20
      refine hK.out _ _ ⟨hq_u20, (HC.out.on (hq_u20)).c3⟩ (fun hHeld => ?_)
      clear hK K
      refine nm_ (some 66) ?_
      refine tw_ 21 23 (some 67) (some 12) (bs 26 8388607) (bs 26 14680063) rfl rfl (fun K hK => ?_) (fun K hK => ?_)
      ·skip
       refine gF_ Try.func53 gf (numV y2) (numV t7) rfl ?_
       with_reducible refine (K10.out _ (HF.out.on hHeld.1)).mono ?_
       rintro e u21 ⟨rfl, hb_u21⟩
       refine ⟨_, rfl, ?_⟩
       have hq_u21 := bl_on hHeld.1 hb_u21 hHeld.1.size
       replace hzg11 := hzg11.on hb_u21
       refine hK.out _ _ ⟨hq_u21, (HC.out.on (hq_u21)).c3⟩ (fun hHeld => ?_)
       clear hK K
       refine nm_ (some 67) ?_
       refine on1_ 23 (some 12) (bs 26 16777215) rfl fun K hK => ?_
       refine value_ (w1 := ?_) (v := ?_) (by rfl) rfl ?_ ?_
       rotate_left 2
       ·go_simp
        constructor
        ·rfl
        ·rfl
       have hzg12 : NAt (World.alloc u21 (.cells (nw 0).toArray 24)) (u21.heap.size) 0 := by have h_ := Row.new u21 24 (nw 0); first | exact h_ | (simp only [alloc_sz] at h_; exact h_) | omega
       have hsg12 : q17.heap.size ≤ u21.heap.size := by have h_ := hHeld.1.size; first | exact h_ | (simp only [alloc_sz] at h_; exact h_) | omega
       have hng11g12 : u19.heap.size < u21.heap.size := by have h_ := hzg11.size; first | exact h_ | (simp only [alloc_sz] at h_; exact h_) | omega
       replace hzg11 := hzg11.on (below_alloc (Below.refl _ u21) (.cells (nw 0).toArray 24))
       refine hK.out _ _ ⟨below_alloc hHeld.1 _, (HC.out.on (below_alloc hHeld.1 _)).c3⟩ (fun hHeld => ?_)
       clear hK K
       refine nm_ (some 12) ?_
       exact norm_ (by simp only [putAll, aS]) (hCont (u19.heap.size, u21.heap.size) _ ⟨hHeld.1, hzg11, hsg11, hzg12, hsg12, Nat.ne_of_lt hng11g12⟩)
      ·skip
       refine value_ (w1 := ?_) (v := ?_) (by rfl) rfl ?_ ?_
       rotate_left 2
       ·go_simp
        constructor
        ·rfl
        ·rfl
       have hzg12 : NAt (World.alloc u20 (.cells (nw 0).toArray 24)) (u20.heap.size) 0 := by have h_ := Row.new u20 24 (nw 0); first | exact h_ | (simp only [alloc_sz] at h_; exact h_) | omega
       have hsg12 : q17.heap.size ≤ u20.heap.size := by have h_ := hHeld.1.size; first | exact h_ | (simp only [alloc_sz] at h_; exact h_) | omega
       have hng11g12 : u19.heap.size < u20.heap.size := by have h_ := hzg11.size; first | exact h_ | (simp only [alloc_sz] at h_; exact h_) | omega
       replace hzg11 := hzg11.on (below_alloc (Below.refl _ u20) (.cells (nw 0).toArray 24))
       refine hK.out _ _ ⟨below_alloc hHeld.1 _, (HC.out.on (below_alloc hHeld.1 _)).c3⟩ (fun hHeld => ?_)
       clear hK K
       refine nm_ (some 12) ?_
       refine on1_ 21 (some 67) (bs 26 16777215) rfl fun K hK => ?_
       refine gF_ Try.func53 gf (numV y2) (numV t7) rfl ?_
       with_reducible refine (K10.out _ (HF.out.on hHeld.1)).mono ?_
       rintro e u21 ⟨rfl, hb_u21⟩
       refine ⟨_, rfl, ?_⟩
       have hq_u21 := bl_on hHeld.1 hb_u21 hHeld.1.size
       replace hzg11 := hzg11.on hb_u21
       replace hzg12 := hzg12.on hb_u21
       refine hK.out _ _ ⟨hq_u21, (HC.out.on (hq_u21)).c3⟩ (fun hHeld => ?_)
       clear hK K
       refine nm_ (some 67) ?_
       exact norm_ (by simp only [putAll, aS]) (hCont (u19.heap.size, u20.heap.size) _ ⟨hHeld.1, hzg11, hsg11, hzg12, hsg12, Nat.ne_of_lt hng11g12⟩)
     ·skip
      refine value_ (w1 := ?_) (v := ?_) (by rfl) rfl ?_ ?_
      rotate_left 2
      ·go_simp
       constructor
       ·rfl
       ·rfl
      have hzg12 : NAt (World.alloc (World.alloc u19 (.cells (nw 0).toArray 24)) (.cells (nw 0).toArray 24)) (u19.heap.size + 1) 0 := by have h_ := Row.new (World.alloc u19 (.cells (nw 0).toArray 24)) 24 (nw 0); first | exact h_ | (simp only [alloc_sz] at h_; exact h_) | omega
      have hsg12 : q17.heap.size ≤ u19.heap.size + 1 := by have h_ := hHeld.1.size; first | exact h_ | (simp only [alloc_sz] at h_; exact h_) | omega
      have hng11g12 : u19.heap.size < u19.heap.size + 1 := by have h_ := hzg11.size; first | exact h_ | (simp only [alloc_sz] at h_; exact h_) | omega
      replace hzg11 := hzg11.on (below_alloc (Below.refl _ (World.alloc u19 (.cells (nw 0).toArray 24))) (.cells (nw 0).toArray 24))
      refine hK.out _ _ ⟨below_alloc hHeld.1 _, (HC.out.on (below_alloc hHeld.1 _)).c3⟩ (fun hHeld => ?_)
      clear hK K
      refine nm_ (some 12) ?_
      refine on1_ 20 (some 66) (bs 26 14680063) rfl fun K hK => ?_
      refine gF_ Try.func53 gf (numV t1) (numV z1) rfl ?_
      with_reducible refine (K9.out _ (HF.out.on hHeld.1)).mono ?_
      rintro e u20 ⟨rfl, hb_u20⟩
      refine ⟨_, rfl, ?_⟩
      have hq_u20 := bl_on hHeld.1 hb_u20 hHeld.1.size
      replace hzg11 := hzg11.on hb_u20
      replace hzg12 := hzg12.on hb_u20
      refine hK.out _ _ ⟨hq_u20, (HC.out.on (hq_u20)).c3⟩ (fun hHeld => ?_)
      clear hK K
      refine nm_ (some 66) ?_
      refine on1_ 21 (some 67) (bs 26 16777215) rfl fun K hK => ?_
      refine gF_ Try.func53 gf (numV y2) (numV t7) rfl ?_
      with_reducible refine (K10.out _ (HF.out.on hHeld.1)).mono ?_
      rintro e u21 ⟨rfl, hb_u21⟩
      refine ⟨_, rfl, ?_⟩
      have hq_u21 := bl_on hHeld.1 hb_u21 hHeld.1.size
      replace hzg11 := hzg11.on hb_u21
      replace hzg12 := hzg12.on hb_u21
      refine hK.out _ _ ⟨hq_u21, (HC.out.on (hq_u21)).c3⟩ (fun hHeld => ?_)
      clear hK K
      refine nm_ (some 67) ?_
      exact norm_ (by simp only [putAll, aS]) (hCont (u19.heap.size, u19.heap.size + 1) _ ⟨hHeld.1, hzg11, hsg11, hzg12, hsg12, Nat.ne_of_lt hng11g12⟩)
    ·skip
     refine value_ (w1 := ?_) (v := ?_) (by rfl) rfl ?_ ?_
     rotate_left 2
     ·go_simp
      constructor
      ·rfl
      ·rfl
     have hzg12 : NAt (World.alloc u19 (.cells (nw 0).toArray 24)) (u19.heap.size) 0 := by have h_ := Row.new u19 24 (nw 0); first | exact h_ | (simp only [alloc_sz] at h_; exact h_) | omega
     have hsg12 : q17.heap.size ≤ u19.heap.size := by have h_ := hHeld.1.size; first | exact h_ | (simp only [alloc_sz] at h_; exact h_) | omega
     refine hK.out _ _ ⟨below_alloc hHeld.1 _, (HC.out.on (below_alloc hHeld.1 _)).c3⟩ (fun hHeld => ?_)
     clear hK K
     refine nm_ (some 12) ?_
     refine tw_ 20 22 (some 66) (some 11) (bs 26 10485759) (bs 26 13631487) rfl rfl (fun K hK => ?_) (fun K hK => ?_)
     ·skip
      refine gF_ Try.func53 gf (numV t1) (numV z1) rfl ?_
      with_reducible refine (K9.out _ (HF.out.on hHeld.1)).mono ?_
      rintro e u20 ⟨rfl, hb_u20⟩
      refine ⟨_, rfl, ?_⟩
      have hq_u20 := bl_on hHeld.1 hb_u20 hHeld.1.size
      replace hzg12 := hzg12.on hb_u20
      refine hK.out _ _ ⟨hq_u20, (HC.out.on (hq_u20)).c3⟩ (fun hHeld => ?_)
      clear hK K
      refine nm_ (some 66) ?_
      refine tw_ 21 22 (some 67) (some 11) (bs 26 12582911) (bs 26 14680063) rfl rfl (fun K hK => ?_) (fun K hK => ?_)
      ·skip
       refine gF_ Try.func53 gf (numV y2) (numV t7) rfl ?_
       with_reducible refine (K10.out _ (HF.out.on hHeld.1)).mono ?_
       rintro e u21 ⟨rfl, hb_u21⟩
       refine ⟨_, rfl, ?_⟩
       have hq_u21 := bl_on hHeld.1 hb_u21 hHeld.1.size
       replace hzg12 := hzg12.on hb_u21
       refine hK.out _ _ ⟨hq_u21, (HC.out.on (hq_u21)).c3⟩ (fun hHeld => ?_)
       clear hK K
       refine nm_ (some 67) ?_
       refine on1_ 22 (some 11) (bs 26 16777215) rfl fun K hK => ?_
       refine value_ (w1 := ?_) (v := ?_) (by rfl) rfl ?_ ?_
       rotate_left 2
       ·go_simp
        constructor
        ·rfl
        ·rfl
       have hzg11 : NAt (World.alloc u21 (.cells (nw 0).toArray 24)) (u21.heap.size) 0 := by have h_ := Row.new u21 24 (nw 0); first | exact h_ | (simp only [alloc_sz] at h_; exact h_) | omega
       have hsg11 : q17.heap.size ≤ u21.heap.size := by have h_ := hHeld.1.size; first | exact h_ | (simp only [alloc_sz] at h_; exact h_) | omega
       have hng12g11 : u19.heap.size < u21.heap.size := by have h_ := hzg12.size; first | exact h_ | (simp only [alloc_sz] at h_; exact h_) | omega
       replace hzg12 := hzg12.on (below_alloc (Below.refl _ u21) (.cells (nw 0).toArray 24))
       refine hK.out _ _ ⟨below_alloc hHeld.1 _, (HC.out.on (below_alloc hHeld.1 _)).c3⟩ (fun hHeld => ?_)
       clear hK K
       refine nm_ (some 11) ?_
       exact norm_ (by simp only [putAll, aS]) (hCont (u21.heap.size, u19.heap.size) _ ⟨hHeld.1, hzg11, hsg11, hzg12, hsg12, Nat.ne_of_gt hng12g11⟩)
      ·skip
       refine value_ (w1 := ?_) (v := ?_) (by rfl) rfl ?_ ?_
       rotate_left 2
       ·go_simp
        constructor
        ·rfl
        ·rfl
       have hzg11 : NAt (World.alloc u20 (.cells (nw 0).toArray 24)) (u20.heap.size) 0 := by have h_ := Row.new u20 24 (nw 0); first | exact h_ | (simp only [alloc_sz] at h_; exact h_) | omega
       have hsg11 : q17.heap.size ≤ u20.heap.size := by have h_ := hHeld.1.size; first | exact h_ | (simp only [alloc_sz] at h_; exact h_) | omega
       have hng12g11 : u19.heap.size < u20.heap.size := by have h_ := hzg12.size; first | exact h_ | (simp only [alloc_sz] at h_; exact h_) | omega
       replace hzg12 := hzg12.on (below_alloc (Below.refl _ u20) (.cells (nw 0).toArray 24))
       refine hK.out _ _ ⟨below_alloc hHeld.1 _, (HC.out.on (below_alloc hHeld.1 _)).c3⟩ (fun hHeld => ?_)
       clear hK K
       refine nm_ (some 11) ?_
       refine on1_ 21 (some 67) (bs 26 16777215) rfl fun K hK => ?_
       refine gF_ Try.func53 gf (numV y2) (numV t7) rfl ?_
       with_reducible refine (K10.out _ (HF.out.on hHeld.1)).mono ?_
       rintro e u21 ⟨rfl, hb_u21⟩
       refine ⟨_, rfl, ?_⟩
       have hq_u21 := bl_on hHeld.1 hb_u21 hHeld.1.size
       replace hzg12 := hzg12.on hb_u21
       replace hzg11 := hzg11.on hb_u21
       refine hK.out _ _ ⟨hq_u21, (HC.out.on (hq_u21)).c3⟩ (fun hHeld => ?_)
       clear hK K
       refine nm_ (some 67) ?_
       exact norm_ (by simp only [putAll, aS]) (hCont (u20.heap.size, u19.heap.size) _ ⟨hHeld.1, hzg11, hsg11, hzg12, hsg12, Nat.ne_of_gt hng12g11⟩)
     ·skip
      refine value_ (w1 := ?_) (v := ?_) (by rfl) rfl ?_ ?_
      rotate_left 2
      ·go_simp
       constructor
       ·rfl
       ·rfl
      have hzg11 : NAt (World.alloc (World.alloc u19 (.cells (nw 0).toArray 24)) (.cells (nw 0).toArray 24)) (u19.heap.size + 1) 0 := by have h_ := Row.new (World.alloc u19 (.cells (nw 0).toArray 24)) 24 (nw 0); first | exact h_ | (simp only [alloc_sz] at h_; exact h_) | omega
      have hsg11 : q17.heap.size ≤ u19.heap.size + 1 := by have h_ := hHeld.1.size; first | exact h_ | (simp only [alloc_sz] at h_; exact h_) | omega
      have hng12g11 : u19.heap.size < u19.heap.size + 1 := by have h_ := hzg12.size; first | exact h_ | (simp only [alloc_sz] at h_; exact h_) | omega
      replace hzg12 := hzg12.on (below_alloc (Below.refl _ (World.alloc u19 (.cells (nw 0).toArray 24))) (.cells (nw 0).toArray 24))
      refine hK.out _ _ ⟨below_alloc hHeld.1 _, (HC.out.on (below_alloc hHeld.1 _)).c3⟩ (fun hHeld => ?_)
      clear hK K
      refine nm_ (some 11) ?_
      refine on1_ 20 (some 66) (bs 26 14680063) rfl fun K hK => ?_
      refine gF_ Try.func53 gf (numV t1) (numV z1) rfl ?_
      with_reducible refine (K9.out _ (HF.out.on hHeld.1)).mono ?_
      rintro e u20 ⟨rfl, hb_u20⟩
      refine ⟨_, rfl, ?_⟩
      have hq_u20 := bl_on hHeld.1 hb_u20 hHeld.1.size
      replace hzg12 := hzg12.on hb_u20
      replace hzg11 := hzg11.on hb_u20
      refine hK.out _ _ ⟨hq_u20, (HC.out.on (hq_u20)).c3⟩ (fun hHeld => ?_)
      clear hK K
      refine nm_ (some 66) ?_
      refine on1_ 21 (some 67) (bs 26 16777215) rfl fun K hK => ?_
      refine gF_ Try.func53 gf (numV y2) (numV t7) rfl ?_
      with_reducible refine (K10.out _ (HF.out.on hHeld.1)).mono ?_
      rintro e u21 ⟨rfl, hb_u21⟩
      refine ⟨_, rfl, ?_⟩
      have hq_u21 := bl_on hHeld.1 hb_u21 hHeld.1.size
      replace hzg12 := hzg12.on hb_u21
      replace hzg11 := hzg11.on hb_u21
      refine hK.out _ _ ⟨hq_u21, (HC.out.on (hq_u21)).c3⟩ (fun hHeld => ?_)
      clear hK K
      refine nm_ (some 67) ?_
      exact norm_ (by simp only [putAll, aS]) (hCont (u19.heap.size + 1, u19.heap.size) _ ⟨hHeld.1, hzg11, hsg11, hzg12, hsg12, Nat.ne_of_gt hng12g11⟩)
   ·skip
    refine value_ (w1 := ?_) (v := ?_) (by rfl) rfl ?_ ?_
    rotate_left 2
    ·go_simp
     constructor
     ·rfl
     ·rfl
    have hzg11 : NAt (World.alloc u18 (.cells (nw 0).toArray 24)) (u18.heap.size) 0 := by have h_ := Row.new u18 24 (nw 0); first | exact h_ | (simp only [alloc_sz] at h_; exact h_) | omega
    have hsg11 : q17.heap.size ≤ u18.heap.size := by have h_ := hHeld.1.size; first | exact h_ | (simp only [alloc_sz] at h_; exact h_) | omega
    refine hK.out _ _ ⟨below_alloc hHeld.1 _, (HC.out.on (below_alloc hHeld.1 _)).c3⟩ (fun hHeld => ?_)
    clear hK K
    refine nm_ (some 11) ?_
    refine tw_ 10 23 (some 56) (some 12) (bs 26 5242879) (bs 26 13630463) rfl rfl (fun K hK => ?_) (fun K hK => ?_)
    ·skip
     refine gF_ Try.func53 gf (numV y1) (numV t5) rfl ?_
     with_reducible refine (K8.out _ (HF.out.on hHeld.1)).mono ?_
     rintro e u19 ⟨rfl, hb_u19⟩
     refine ⟨_, rfl, ?_⟩
     have hq_u19 := bl_on hHeld.1 hb_u19 hHeld.1.size
     replace hzg11 := hzg11.on hb_u19
     refine hK.out _ _ ⟨hq_u19, (HC.out.on (hq_u19)).c3⟩ (fun hHeld => ?_)
     clear hK K
     refine nm_ (some 56) ?_
     refine tw_ 20 23 (some 66) (some 12) (bs 26 6291455) (bs 26 13631487) rfl rfl (fun K hK => ?_) (fun K hK => ?_)
     ·skip
      refine gF_ Try.func53 gf (numV t1) (numV z1) rfl ?_
      with_reducible refine (K9.out _ (HF.out.on hHeld.1)).mono ?_
      rintro e u20 ⟨rfl, hb_u20⟩
      refine ⟨_, rfl, ?_⟩
      have hq_u20 := bl_on hHeld.1 hb_u20 hHeld.1.size
      replace hzg11 := hzg11.on hb_u20
      refine hK.out _ _ ⟨hq_u20, (HC.out.on (hq_u20)).c3⟩ (fun hHeld => ?_)
      clear hK K
      refine nm_ (some 66) ?_
      refine tw_ 21 23 (some 67) (some 12) (bs 26 8388607) (bs 26 14680063) rfl rfl (fun K hK => ?_) (fun K hK => ?_)
      ·skip
       refine gF_ Try.func53 gf (numV y2) (numV t7) rfl ?_
       with_reducible refine (K10.out _ (HF.out.on hHeld.1)).mono ?_
       rintro e u21 ⟨rfl, hb_u21⟩
       refine ⟨_, rfl, ?_⟩
       have hq_u21 := bl_on hHeld.1 hb_u21 hHeld.1.size
       replace hzg11 := hzg11.on hb_u21
       refine hK.out _ _ ⟨hq_u21, (HC.out.on (hq_u21)).c3⟩ (fun hHeld => ?_)
       clear hK K
       refine nm_ (some 67) ?_
       refine on1_ 23 (some 12) (bs 26 16777215) rfl fun K hK => ?_
       refine value_ (w1 := ?_) (v := ?_) (by rfl) rfl ?_ ?_
       rotate_left 2
       ·go_simp
        constructor
        ·rfl
        ·rfl
       have hzg12 : NAt (World.alloc u21 (.cells (nw 0).toArray 24)) (u21.heap.size) 0 := by have h_ := Row.new u21 24 (nw 0); first | exact h_ | (simp only [alloc_sz] at h_; exact h_) | omega
       have hsg12 : q17.heap.size ≤ u21.heap.size := by have h_ := hHeld.1.size; first | exact h_ | (simp only [alloc_sz] at h_; exact h_) | omega
       have hng11g12 : u18.heap.size < u21.heap.size := by have h_ := hzg11.size; first | exact h_ | (simp only [alloc_sz] at h_; exact h_) | omega
       replace hzg11 := hzg11.on (below_alloc (Below.refl _ u21) (.cells (nw 0).toArray 24))
       refine hK.out _ _ ⟨below_alloc hHeld.1 _, (HC.out.on (below_alloc hHeld.1 _)).c3⟩ (fun hHeld => ?_)
       clear hK K
       refine nm_ (some 12) ?_
       exact norm_ (by simp only [putAll, aS]) (hCont (u18.heap.size, u21.heap.size) _ ⟨hHeld.1, hzg11, hsg11, hzg12, hsg12, Nat.ne_of_lt hng11g12⟩)
      ·skip
       refine value_ (w1 := ?_) (v := ?_) (by rfl) rfl ?_ ?_
       rotate_left 2
       ·go_simp
        constructor
        ·rfl
        ·rfl
       have hzg12 : NAt (World.alloc u20 (.cells (nw 0).toArray 24)) (u20.heap.size) 0 := by have h_ := Row.new u20 24 (nw 0); first | exact h_ | (simp only [alloc_sz] at h_; exact h_) | omega
       have hsg12 : q17.heap.size ≤ u20.heap.size := by have h_ := hHeld.1.size; first | exact h_ | (simp only [alloc_sz] at h_; exact h_) | omega
       have hng11g12 : u18.heap.size < u20.heap.size := by have h_ := hzg11.size; first | exact h_ | (simp only [alloc_sz] at h_; exact h_) | omega
       replace hzg11 := hzg11.on (below_alloc (Below.refl _ u20) (.cells (nw 0).toArray 24))
       refine hK.out _ _ ⟨below_alloc hHeld.1 _, (HC.out.on (below_alloc hHeld.1 _)).c3⟩ (fun hHeld => ?_)
       clear hK K
       refine nm_ (some 12) ?_
       refine on1_ 21 (some 67) (bs 26 16777215) rfl fun K hK => ?_
       refine gF_ Try.func53 gf (numV y2) (numV t7) rfl ?_
       with_reducible refine (K10.out _ (HF.out.on hHeld.1)).mono ?_
       rintro e u21 ⟨rfl, hb_u21⟩
       refine ⟨_, rfl, ?_⟩
       have hq_u21 := bl_on hHeld.1 hb_u21 hHeld.1.size
       replace hzg11 := hzg11.on hb_u21
       replace hzg12 := hzg12.on hb_u21
       refine hK.out _ _ ⟨hq_u21, (HC.out.on (hq_u21)).c3⟩ (fun hHeld => ?_)
       clear hK K
       refine nm_ (some 67) ?_
       exact norm_ (by simp only [putAll, aS]) (hCont (u18.heap.size, u20.heap.size) _ ⟨hHeld.1, hzg11, hsg11, hzg12, hsg12, Nat.ne_of_lt hng11g12⟩)
     ·skip
      refine value_ (w1 := ?_) (v := ?_) (by rfl) rfl ?_ ?_
      rotate_left 2
      ·go_simp
       constructor
       ·rfl
       ·rfl
      have hzg12 : NAt (World.alloc u19 (.cells (nw 0).toArray 24)) (u19.heap.size) 0 := by have h_ := Row.new u19 24 (nw 0); first | exact h_ | (simp only [alloc_sz] at h_; exact h_) | omega
      have hsg12 : q17.heap.size ≤ u19.heap.size := by have h_ := hHeld.1.size; first | exact h_ | (simp only [alloc_sz] at h_; exact h_) | omega
      have hng11g12 : u18.heap.size < u19.heap.size := by have h_ := hzg11.size; first | exact h_ | (simp only [alloc_sz] at h_; exact h_) | omega
      replace hzg11 := hzg11.on (below_alloc (Below.refl _ u19) (.cells (nw 0).toArray 24))
      refine hK.out _ _ ⟨below_alloc hHeld.1 _, (HC.out.on (below_alloc hHeld.1 _)).c3⟩ (fun hHeld => ?_)
      clear hK K
      refine nm_ (some 12) ?_
      refine on1_ 20 (some 66) (bs 26 14680063) rfl fun K hK => ?_
      refine gF_ Try.func53 gf (numV t1) (numV z1) rfl ?_
      with_reducible refine (K9.out _ (HF.out.on hHeld.1)).mono ?_
      rintro e u20 ⟨rfl, hb_u20⟩
      refine ⟨_, rfl, ?_⟩
      have hq_u20 := bl_on hHeld.1 hb_u20 hHeld.1.size
      replace hzg11 := hzg11.on hb_u20
      replace hzg12 := hzg12.on hb_u20
      refine hK.out _ _ ⟨hq_u20, (HC.out.on (hq_u20)).c3⟩ (fun hHeld => ?_)
      clear hK K
      refine nm_ (some 66) ?_
      refine on1_ 21 (some 67) (bs 26 16777215) rfl fun K hK => ?_
      refine gF_ Try.func53 gf (numV y2) (numV t7) rfl ?_
      with_reducible refine (K10.out _ (HF.out.on hHeld.1)).mono ?_
      rintro e u21 ⟨rfl, hb_u21⟩
      refine ⟨_, rfl, ?_⟩
      have hq_u21 := bl_on hHeld.1 hb_u21 hHeld.1.size
      replace hzg11 := hzg11.on hb_u21
      replace hzg12 := hzg12.on hb_u21
      refine hK.out _ _ ⟨hq_u21, (HC.out.on (hq_u21)).c3⟩ (fun hHeld => ?_)
      clear hK K
      refine nm_ (some 67) ?_
      exact norm_ (by simp only [putAll, aS]) (hCont (u18.heap.size, u19.heap.size) _ ⟨hHeld.1, hzg11, hsg11, hzg12, hsg12, Nat.ne_of_lt hng11g12⟩)
    ·skip
     refine value_ (w1 := ?_) (v := ?_) (by rfl) rfl ?_ ?_
     rotate_left 2
     ·go_simp
      constructor
      ·rfl
      ·rfl
     have hzg12 : NAt (World.alloc (World.alloc u18 (.cells (nw 0).toArray 24)) (.cells (nw 0).toArray 24)) (u18.heap.size + 1) 0 := by have h_ := Row.new (World.alloc u18 (.cells (nw 0).toArray 24)) 24 (nw 0); first | exact h_ | (simp only [alloc_sz] at h_; exact h_) | omega
     have hsg12 : q17.heap.size ≤ u18.heap.size + 1 := by have h_ := hHeld.1.size; first | exact h_ | (simp only [alloc_sz] at h_; exact h_) | omega
     have hng11g12 : u18.heap.size < u18.heap.size + 1 := by have h_ := hzg11.size; first | exact h_ | (simp only [alloc_sz] at h_; exact h_) | omega
     replace hzg11 := hzg11.on (below_alloc (Below.refl _ (World.alloc u18 (.cells (nw 0).toArray 24))) (.cells (nw 0).toArray 24))
     refine hK.out _ _ ⟨below_alloc hHeld.1 _, (HC.out.on (below_alloc hHeld.1 _)).c3⟩ (fun hHeld => ?_)
     clear hK K
     refine nm_ (some 12) ?_
     refine on1_ 10 (some 56) (bs 26 13631487) rfl fun K hK => ?_
     refine gF_ Try.func53 gf (numV y1) (numV t5) rfl ?_
     with_reducible refine (K8.out _ (HF.out.on hHeld.1)).mono ?_
     rintro e u19 ⟨rfl, hb_u19⟩
     refine ⟨_, rfl, ?_⟩
     have hq_u19 := bl_on hHeld.1 hb_u19 hHeld.1.size
     replace hzg11 := hzg11.on hb_u19
     replace hzg12 := hzg12.on hb_u19
     refine hK.out _ _ ⟨hq_u19, (HC.out.on (hq_u19)).c3⟩ (fun hHeld => ?_)
     clear hK K
     refine nm_ (some 56) ?_
     refine on1_ 20 (some 66) (bs 26 14680063) rfl fun K hK => ?_
     refine gF_ Try.func53 gf (numV t1) (numV z1) rfl ?_
     with_reducible refine (K9.out _ (HF.out.on hHeld.1)).mono ?_
     rintro e u20 ⟨rfl, hb_u20⟩
     refine ⟨_, rfl, ?_⟩
     have hq_u20 := bl_on hHeld.1 hb_u20 hHeld.1.size
     replace hzg11 := hzg11.on hb_u20
     replace hzg12 := hzg12.on hb_u20
     refine hK.out _ _ ⟨hq_u20, (HC.out.on (hq_u20)).c3⟩ (fun hHeld => ?_)
     clear hK K
     refine nm_ (some 66) ?_
     refine on1_ 21 (some 67) (bs 26 16777215) rfl fun K hK => ?_
     refine gF_ Try.func53 gf (numV y2) (numV t7) rfl ?_
     with_reducible refine (K10.out _ (HF.out.on hHeld.1)).mono ?_
     rintro e u21 ⟨rfl, hb_u21⟩
     refine ⟨_, rfl, ?_⟩
     have hq_u21 := bl_on hHeld.1 hb_u21 hHeld.1.size
     replace hzg11 := hzg11.on hb_u21
     replace hzg12 := hzg12.on hb_u21
     refine hK.out _ _ ⟨hq_u21, (HC.out.on (hq_u21)).c3⟩ (fun hHeld => ?_)
     clear hK K
     refine nm_ (some 67) ?_
     exact norm_ (by simp only [putAll, aS]) (hCont (u18.heap.size, u18.heap.size + 1) _ ⟨hHeld.1, hzg11, hsg11, hzg12, hsg12, Nat.ne_of_lt hng11g12⟩)
   ·skip
    refine value_ (w1 := ?_) (v := ?_) (by rfl) rfl ?_ ?_
    rotate_left 2
    ·go_simp
     constructor
     ·rfl
     ·rfl
    have hzg12 : NAt (World.alloc u18 (.cells (nw 0).toArray 24)) (u18.heap.size) 0 := by have h_ := Row.new u18 24 (nw 0); first | exact h_ | (simp only [alloc_sz] at h_; exact h_) | omega
    have hsg12 : q17.heap.size ≤ u18.heap.size := by have h_ := hHeld.1.size; first | exact h_ | (simp only [alloc_sz] at h_; exact h_) | omega
    refine hK.out _ _ ⟨below_alloc hHeld.1 _, (HC.out.on (below_alloc hHeld.1 _)).c3⟩ (fun hHeld => ?_)
    clear hK K
    refine nm_ (some 12) ?_
    refine tw_ 10 22 (some 56) (some 11) (bs 26 9437183) (bs 26 13630463) rfl rfl (fun K hK => ?_) (fun K hK => ?_)
    ·skip
     refine gF_ Try.func53 gf (numV y1) (numV t5) rfl ?_
     with_reducible refine (K8.out _ (HF.out.on hHeld.1)).mono ?_
     rintro e u19 ⟨rfl, hb_u19⟩
     refine ⟨_, rfl, ?_⟩
     have hq_u19 := bl_on hHeld.1 hb_u19 hHeld.1.size
     replace hzg12 := hzg12.on hb_u19
     refine hK.out _ _ ⟨hq_u19, (HC.out.on (hq_u19)).c3⟩ (fun hHeld => ?_)
     clear hK K
     refine nm_ (some 56) ?_
     refine tw_ 20 22 (some 66) (some 11) (bs 26 10485759) (bs 26 13631487) rfl rfl (fun K hK => ?_) (fun K hK => ?_)
     ·skip
      refine gF_ Try.func53 gf (numV t1) (numV z1) rfl ?_
      with_reducible refine (K9.out _ (HF.out.on hHeld.1)).mono ?_
      rintro e u20 ⟨rfl, hb_u20⟩
      refine ⟨_, rfl, ?_⟩
      have hq_u20 := bl_on hHeld.1 hb_u20 hHeld.1.size
      replace hzg12 := hzg12.on hb_u20
      refine hK.out _ _ ⟨hq_u20, (HC.out.on (hq_u20)).c3⟩ (fun hHeld => ?_)
      clear hK K
      refine nm_ (some 66) ?_
      refine tw_ 21 22 (some 67) (some 11) (bs 26 12582911) (bs 26 14680063) rfl rfl (fun K hK => ?_) (fun K hK => ?_)
      ·skip
       refine gF_ Try.func53 gf (numV y2) (numV t7) rfl ?_
       with_reducible refine (K10.out _ (HF.out.on hHeld.1)).mono ?_
       rintro e u21 ⟨rfl, hb_u21⟩
       refine ⟨_, rfl, ?_⟩
       have hq_u21 := bl_on hHeld.1 hb_u21 hHeld.1.size
       replace hzg12 := hzg12.on hb_u21
       refine hK.out _ _ ⟨hq_u21, (HC.out.on (hq_u21)).c3⟩ (fun hHeld => ?_)
       clear hK K
       refine nm_ (some 67) ?_
       refine on1_ 22 (some 11) (bs 26 16777215) rfl fun K hK => ?_
       refine value_ (w1 := ?_) (v := ?_) (by rfl) rfl ?_ ?_
       rotate_left 2
       ·go_simp
        constructor
        ·rfl
        ·rfl
       have hzg11 : NAt (World.alloc u21 (.cells (nw 0).toArray 24)) (u21.heap.size) 0 := by have h_ := Row.new u21 24 (nw 0); first | exact h_ | (simp only [alloc_sz] at h_; exact h_) | omega
       have hsg11 : q17.heap.size ≤ u21.heap.size := by have h_ := hHeld.1.size; first | exact h_ | (simp only [alloc_sz] at h_; exact h_) | omega
       have hng12g11 : u18.heap.size < u21.heap.size := by have h_ := hzg12.size; first | exact h_ | (simp only [alloc_sz] at h_; exact h_) | omega
       replace hzg12 := hzg12.on (below_alloc (Below.refl _ u21) (.cells (nw 0).toArray 24))
       refine hK.out _ _ ⟨below_alloc hHeld.1 _, (HC.out.on (below_alloc hHeld.1 _)).c3⟩ (fun hHeld => ?_)
       clear hK K
       refine nm_ (some 11) ?_
       exact norm_ (by simp only [putAll, aS]) (hCont (u21.heap.size, u18.heap.size) _ ⟨hHeld.1, hzg11, hsg11, hzg12, hsg12, Nat.ne_of_gt hng12g11⟩)
      ·skip
       refine value_ (w1 := ?_) (v := ?_) (by rfl) rfl ?_ ?_
       rotate_left 2
       ·go_simp
        constructor
        ·rfl
        ·rfl
       have hzg11 : NAt (World.alloc u20 (.cells (nw 0).toArray 24)) (u20.heap.size) 0 := by have h_ := Row.new u20 24 (nw 0); first | exact h_ | (simp only [alloc_sz] at h_; exact h_) | omega
       have hsg11 : q17.heap.size ≤ u20.heap.size := by have h_ := hHeld.1.size; first | exact h_ | (simp only [alloc_sz] at h_; exact h_) | omega
       have hng12g11 : u18.heap.size < u20.heap.size := by have h_ := hzg12.size; first | exact h_ | (simp only [alloc_sz] at h_; exact h_) | omega
       replace hzg12 := hzg12.on (below_alloc (Below.refl _ u20) (.cells (nw 0).toArray 24))
       refine hK.out _ _ ⟨below_alloc hHeld.1 _, (HC.out.on (below_alloc hHeld.1 _)).c3⟩ (fun hHeld => ?_)
       clear hK K
       refine nm_ (some 11) ?_
       refine on1_ 21 (some 67) (bs 26 16777215) rfl fun K hK => ?_
       refine gF_ Try.func53 gf (numV y2) (numV t7) rfl ?_
       with_reducible refine (K10.out _ (HF.out.on hHeld.1)).mono ?_
       rintro e u21 ⟨rfl, hb_u21⟩
       refine ⟨_, rfl, ?_⟩
       have hq_u21 := bl_on hHeld.1 hb_u21 hHeld.1.size
       replace hzg12 := hzg12.on hb_u21
       replace hzg11 := hzg11.on hb_u21
       refine hK.out _ _ ⟨hq_u21, (HC.out.on (hq_u21)).c3⟩ (fun hHeld => ?_)
       clear hK K
       refine nm_ (some 67) ?_
       exact norm_ (by simp only [putAll, aS]) (hCont (u20.heap.size, u18.heap.size) _ ⟨hHeld.1, hzg11, hsg11, hzg12, hsg12, Nat.ne_of_gt hng12g11⟩)
     ·skip
      refine value_ (w1 := ?_) (v := ?_) (by rfl) rfl ?_ ?_
      rotate_left 2
      ·go_simp
       constructor
       ·rfl
       ·rfl
      have hzg11 : NAt (World.alloc u19 (.cells (nw 0).toArray 24)) (u19.heap.size) 0 := by have h_ := Row.new u19 24 (nw 0); first | exact h_ | (simp only [alloc_sz] at h_; exact h_) | omega
      have hsg11 : q17.heap.size ≤ u19.heap.size := by have h_ := hHeld.1.size; first | exact h_ | (simp only [alloc_sz] at h_; exact h_) | omega
      have hng12g11 : u18.heap.size < u19.heap.size := by have h_ := hzg12.size; first | exact h_ | (simp only [alloc_sz] at h_; exact h_) | omega
      replace hzg12 := hzg12.on (below_alloc (Below.refl _ u19) (.cells (nw 0).toArray 24))
      refine hK.out _ _ ⟨below_alloc hHeld.1 _, (HC.out.on (below_alloc hHeld.1 _)).c3⟩ (fun hHeld => ?_)
      clear hK K
      refine nm_ (some 11) ?_
      refine on1_ 20 (some 66) (bs 26 14680063) rfl fun K hK => ?_
      refine gF_ Try.func53 gf (numV t1) (numV z1) rfl ?_
      with_reducible refine (K9.out _ (HF.out.on hHeld.1)).mono ?_
      rintro e u20 ⟨rfl, hb_u20⟩
      refine ⟨_, rfl, ?_⟩
      have hq_u20 := bl_on hHeld.1 hb_u20 hHeld.1.size
      replace hzg12 := hzg12.on hb_u20
      replace hzg11 := hzg11.on hb_u20
      refine hK.out _ _ ⟨hq_u20, (HC.out.on (hq_u20)).c3⟩ (fun hHeld => ?_)
      clear hK K
      refine nm_ (some 66) ?_
      refine on1_ 21 (some 67) (bs 26 16777215) rfl fun K hK => ?_
      refine gF_ Try.func53 gf (numV y2) (numV t7) rfl ?_
      with_reducible refine (K10.out _ (HF.out.on hHeld.1)).mono ?_
      rintro e u21 ⟨rfl, hb_u21⟩
      refine ⟨_, rfl, ?_⟩
      have hq_u21 := bl_on hHeld.1 hb_u21 hHeld.1.size
      replace hzg12 := hzg12.on hb_u21
      replace hzg11 := hzg11.on hb_u21
      refine hK.out _ _ ⟨hq_u21, (HC.out.on (hq_u21)).c3⟩ (fun hHeld => ?_)
      clear hK K
      refine nm_ (some 67) ?_
      exact norm_ (by simp only [putAll, aS]) (hCont (u19.heap.size, u18.heap.size) _ ⟨hHeld.1, hzg11, hsg11, hzg12, hsg12, Nat.ne_of_gt hng12g11⟩)
    ·skip
     refine value_ (w1 := ?_) (v := ?_) (by rfl) rfl ?_ ?_
     rotate_left 2
     ·go_simp
      constructor
      ·rfl
      ·rfl
     have hzg11 : NAt (World.alloc (World.alloc u18 (.cells (nw 0).toArray 24)) (.cells (nw 0).toArray 24)) (u18.heap.size + 1) 0 := by have h_ := Row.new (World.alloc u18 (.cells (nw 0).toArray 24)) 24 (nw 0); first | exact h_ | (simp only [alloc_sz] at h_; exact h_) | omega
     have hsg11 : q17.heap.size ≤ u18.heap.size + 1 := by have h_ := hHeld.1.size; first | exact h_ | (simp only [alloc_sz] at h_; exact h_) | omega
     have hng12g11 : u18.heap.size < u18.heap.size + 1 := by have h_ := hzg12.size; first | exact h_ | (simp only [alloc_sz] at h_; exact h_) | omega
     replace hzg12 := hzg12.on (below_alloc (Below.refl _ (World.alloc u18 (.cells (nw 0).toArray 24))) (.cells (nw 0).toArray 24))
     refine hK.out _ _ ⟨below_alloc hHeld.1 _, (HC.out.on (below_alloc hHeld.1 _)).c3⟩ (fun hHeld => ?_)
     clear hK K
     refine nm_ (some 11) ?_
     refine on1_ 10 (some 56) (bs 26 13631487) rfl fun K hK => ?_
     refine gF_ Try.func53 gf (numV y1) (numV t5) rfl ?_
     with_reducible refine (K8.out _ (HF.out.on hHeld.1)).mono ?_
     rintro e u19 ⟨rfl, hb_u19⟩
     refine ⟨_, rfl, ?_⟩
     have hq_u19 := bl_on hHeld.1 hb_u19 hHeld.1.size
     replace hzg12 := hzg12.on hb_u19
     replace hzg11 := hzg11.on hb_u19
     refine hK.out _ _ ⟨hq_u19, (HC.out.on (hq_u19)).c3⟩ (fun hHeld => ?_)
     clear hK K
     refine nm_ (some 56) ?_
     refine on1_ 20 (some 66) (bs 26 14680063) rfl fun K hK => ?_
     refine gF_ Try.func53 gf (numV t1) (numV z1) rfl ?_
     with_reducible refine (K9.out _ (HF.out.on hHeld.1)).mono ?_
     rintro e u20 ⟨rfl, hb_u20⟩
     refine ⟨_, rfl, ?_⟩
     have hq_u20 := bl_on hHeld.1 hb_u20 hHeld.1.size
     replace hzg12 := hzg12.on hb_u20
     replace hzg11 := hzg11.on hb_u20
     refine hK.out _ _ ⟨hq_u20, (HC.out.on (hq_u20)).c3⟩ (fun hHeld => ?_)
     clear hK K
     refine nm_ (some 66) ?_
     refine on1_ 21 (some 67) (bs 26 16777215) rfl fun K hK => ?_
     refine gF_ Try.func53 gf (numV y2) (numV t7) rfl ?_
     with_reducible refine (K10.out _ (HF.out.on hHeld.1)).mono ?_
     rintro e u21 ⟨rfl, hb_u21⟩
     refine ⟨_, rfl, ?_⟩
     have hq_u21 := bl_on hHeld.1 hb_u21 hHeld.1.size
     replace hzg12 := hzg12.on hb_u21
     replace hzg11 := hzg11.on hb_u21
     refine hK.out _ _ ⟨hq_u21, (HC.out.on (hq_u21)).c3⟩ (fun hHeld => ?_)
     clear hK K
     refine nm_ (some 67) ?_
     exact norm_ (by simp only [putAll, aS]) (hCont (u18.heap.size + 1, u18.heap.size) _ ⟨hHeld.1, hzg11, hsg11, hzg12, hsg12, Nat.ne_of_gt hng12g11⟩)
  ·skip
   refine value_ (w1 := ?_) (v := ?_) (by rfl) rfl ?_ ?_
   rotate_left 2
   ·go_simp
    constructor
    ·rfl
    ·rfl
   have hzg11 : NAt (World.alloc (World.drew q17) (.cells (nw 0).toArray 24)) (q17.heap.size) 0 := by have h_ := Row.new (World.drew q17) 24 (nw 0); first | exact h_ | (simp only [alloc_sz] at h_; exact h_) | omega
   have hsg11 : q17.heap.size ≤ q17.heap.size := by have h_ := hHeld.1.size; first | exact h_ | (simp only [alloc_sz] at h_; exact h_) | omega
   refine hK.out _ _ ⟨below_alloc hHeld.1 _, (HC.out.on (below_alloc hHeld.1 _)).c3⟩ (fun hHeld => ?_)
   clear hK K
   refine nm_ (some 11) ?_
   refine tw_ 9 23 (some 55) (some 12) (bs 26 5241855) (bs 26 13629951) rfl rfl (fun K hK => ?_) (fun K hK => ?_)
   ·skip
    refine gF_ Try.func53 gf (numV t2) (numV z2) rfl ?_
    with_reducible refine (K7.out _ (HF.out.on hHeld.1)).mono ?_
    rintro e u18 ⟨rfl, hb_u18⟩
    refine ⟨_, rfl, ?_⟩
    have hq_u18 := bl_on hHeld.1 hb_u18 hHeld.1.size
    replace hzg11 := hzg11.on hb_u18
    refine hK.out _ _ ⟨hq_u18, (HC.out.on (hq_u18)).c3⟩ (fun hHeld => ?_)
    clear hK K
    refine nm_ (some 55) ?_
    refine tw_ 10 23 (some 56) (some 12) (bs 26 5242879) (bs 26 13630463) rfl rfl (fun K hK => ?_) (fun K hK => ?_)
    ·skip
     refine gF_ Try.func53 gf (numV y1) (numV t5) rfl ?_
     with_reducible refine (K8.out _ (HF.out.on hHeld.1)).mono ?_
     rintro e u19 ⟨rfl, hb_u19⟩
     refine ⟨_, rfl, ?_⟩
     have hq_u19 := bl_on hHeld.1 hb_u19 hHeld.1.size
     replace hzg11 := hzg11.on hb_u19
     refine hK.out _ _ ⟨hq_u19, (HC.out.on (hq_u19)).c3⟩ (fun hHeld => ?_)
     clear hK K
     refine nm_ (some 56) ?_
     refine tw_ 20 23 (some 66) (some 12) (bs 26 6291455) (bs 26 13631487) rfl rfl (fun K hK => ?_) (fun K hK => ?_)
     ·skip
      refine gF_ Try.func53 gf (numV t1) (numV z1) rfl ?_
      with_reducible refine (K9.out _ (HF.out.on hHeld.1)).mono ?_
      rintro e u20 ⟨rfl, hb_u20⟩
      refine ⟨_, rfl, ?_⟩
      have hq_u20 := bl_on hHeld.1 hb_u20 hHeld.1.size
      replace hzg11 := hzg11.on hb_u20
      refine hK.out _ _ ⟨hq_u20, (HC.out.on (hq_u20)).c3⟩ (fun hHeld => ?_)
      clear hK K
      refine nm_ (some 66) ?_
      refine tw_ 21 23 (some 67) (some 12) (bs 26 8388607) (bs 26 14680063) rfl rfl (fun K hK => ?_) (fun K hK => ?_)
      ·skip
       refine gF_ Try.func53 gf (numV y2) (numV t7) rfl ?_
       with_reducible refine (K10.out _ (HF.out.on hHeld.1)).mono ?_
       rintro e u21 ⟨rfl, hb_u21⟩
       refine ⟨_, rfl, ?_⟩
       have hq_u21 := bl_on hHeld.1 hb_u21 hHeld.1.size
       replace hzg11 := hzg11.on hb_u21
       refine hK.out _ _ ⟨hq_u21, (HC.out.on (hq_u21)).c3⟩ (fun hHeld => ?_)
       clear hK K
       refine nm_ (some 67) ?_
       refine on1_ 23 (some 12) (bs 26 16777215) rfl fun K hK => ?_
       refine value_ (w1 := ?_) (v := ?_) (by rfl) rfl ?_ ?_
       rotate_left 2
       ·go_simp
        constructor
        ·rfl
        ·rfl
       have hzg12 : NAt (World.alloc u21 (.cells (nw 0).toArray 24)) (u21.heap.size) 0 := by have h_ := Row.new u21 24 (nw 0); first | exact h_ | (simp only [alloc_sz] at h_; exact h_) | omega
       have hsg12 : q17.heap.size ≤ u21.heap.size := by have h_ := hHeld.1.size; first | exact h_ | (simp only [alloc_sz] at h_; exact h_) | omega
       have hng11g12 : q17.heap.size < u21.heap.size := by have h_ := hzg11.size; first | exact h_ | (simp only [alloc_sz] at h_; exact h_) | omega
       replace hzg11 := hzg11.on (below_alloc (Below.refl _ u21) (.cells (nw 0).toArray 24))
       refine hK.out _ _ ⟨below_alloc hHeld.1 _, (HC.out.on (below_alloc hHeld.1 _)).c3⟩ (fun hHeld => ?_)
       clear hK K
       refine nm_ (some 12) ?_
       exact norm_ (by simp only [putAll, aS]) (hCont (q17.heap.size, u21.heap.size) _ ⟨hHeld.1, hzg11, hsg11, hzg12, hsg12, Nat.ne_of_lt hng11g12⟩)
      ·skip
       refine value_ (w1 := ?_) (v := ?_) (by rfl) rfl ?_ ?_
       rotate_left 2
       ·go_simp
        constructor
        ·rfl
        ·rfl
       have hzg12 : NAt (World.alloc u20 (.cells (nw 0).toArray 24)) (u20.heap.size) 0 := by have h_ := Row.new u20 24 (nw 0); first | exact h_ | (simp only [alloc_sz] at h_; exact h_) | omega
       have hsg12 : q17.heap.size ≤ u20.heap.size := by have h_ := hHeld.1.size; first | exact h_ | (simp only [alloc_sz] at h_; exact h_) | omega
       have hng11g12 : q17.heap.size < u20.heap.size := by have h_ := hzg11.size; first | exact h_ | (simp only [alloc_sz] at h_; exact h_) | omega
       replace hzg11 := hzg11.on (below_alloc (Below.refl _ u20) (.cells (nw 0).toArray 24))
       refine hK.out _ _ ⟨below_alloc hHeld.1 _, (HC.out.on (below_alloc hHeld.1 _)).c3⟩ (fun hHeld => ?_)
       clear hK K
       refine nm_ (some 12) ?_
       refine on1_ 21 (some 67) (bs 26 16777215) rfl fun K hK => ?_
       refine gF_ Try.func53 gf (numV y2) (numV t7) rfl ?_
       with_reducible refine (K10.out _ (HF.out.on hHeld.1)).mono ?_
       rintro e u21 ⟨rfl, hb_u21⟩
       refine ⟨_, rfl, ?_⟩
       have hq_u21 := bl_on hHeld.1 hb_u21 hHeld.1.size
       replace hzg11 := hzg11.on hb_u21
       replace hzg12 := hzg12.on hb_u21
       refine hK.out _ _ ⟨hq_u21, (HC.out.on (hq_u21)).c3⟩ (fun hHeld => ?_)
       clear hK K
       refine nm_ (some 67) ?_
       exact norm_ (by simp only [putAll, aS]) (hCont (q17.heap.size, u20.heap.size) _ ⟨hHeld.1, hzg11, hsg11, hzg12, hsg12, Nat.ne_of_lt hng11g12⟩)
     ·skip
      refine value_ (w1 := ?_) (v := ?_) (by rfl) rfl ?_ ?_
      rotate_left 2
      ·go_simp
       constructor
       ·rfl
       ·rfl
      have hzg12 : NAt (World.alloc u19 (.cells (nw 0).toArray 24)) (u19.heap.size) 0 := by have h_ := Row.new u19 24 (nw 0); first | exact h_ | (simp only [alloc_sz] at h_; exact h_) | omega
      have hsg12 : q17.heap.size ≤ u19.heap.size := by have h_ := hHeld.1.size; first | exact h_ | (simp only [alloc_sz] at h_; exact h_) | omega
      have hng11g12 : q17.heap.size < u19.heap.size := by have h_ := hzg11.size; first | exact h_ | (simp only [alloc_sz] at h_; exact h_) | omega
      replace hzg11 := hzg11.on (below_alloc (Below.refl _ u19) (.cells (nw 0).toArray 24))
      refine hK.out _ _ ⟨below_alloc hHeld.1 _, (HC.out.on (below_alloc hHeld.1 _)).c3⟩ (fun hHeld => ?_)
      clear hK K
      refine nm_ (some 12) ?_
      refine on1_ 20 (some 66) (bs 26 14680063) rfl fun K hK => ?_
      refine gF_ Try.func53 gf (numV t1) (numV z1) rfl ?_
      with_reducible refine (K9.out _ (HF.out.on hHeld.1)).mono ?_
      rintro e u20 ⟨rfl, hb_u20⟩
      refine ⟨_, rfl, ?_⟩
      have hq_u20 := bl_on hHeld.1 hb_u20 hHeld.1.size
      replace hzg11 := hzg11.on hb_u20
      replace hzg12 := hzg12.on hb_u20
      refine hK.out _ _ ⟨hq_u20, (HC.out.on (hq_u20)).c3⟩ (fun hHeld => ?_)
      clear hK K
      refine nm_ (some 66) ?_
      refine on1_ 21 (some 67) (bs 26 16777215) rfl fun K hK => ?_
      refine gF_ Try.func53 gf (numV y2) (numV t7) rfl ?_
      with_reducible refine (K10.out _ (HF.out.on hHeld.1)).mono ?_
      rintro e u21 ⟨rfl, hb_u21⟩
      refine ⟨_, rfl, ?_⟩
      have hq_u21 := bl_on hHeld.1 hb_u21 hHeld.1.size
      replace hzg11 := hzg11.on hb_u21
      replace hzg12 := hzg12.on hb_u21
      refine hK.out _ _ ⟨hq_u21, (HC.out.on (hq_u21)).c3⟩ (fun hHeld => ?_)
      clear hK K
      refine nm_ (some 67) ?_
      exact norm_ (by simp only [putAll, aS]) (hCont (q17.heap.size, u19.heap.size) _ ⟨hHeld.1, hzg11, hsg11, hzg12, hsg12, Nat.ne_of_lt hng11g12⟩)
    ·skip
     refine value_ (w1 := ?_) (v := ?_) (by rfl) rfl ?_ ?_
     rotate_left 2
     ·go_simp
      constructor
      ·rfl
      ·rfl
     have hzg12 : NAt (World.alloc u18 (.cells (nw 0).toArray 24)) (u18.heap.size) 0 := by have h_ := Row.new u18 24 (nw 0); first | exact h_ | (simp only [alloc_sz] at h_; exact h_) | omega
     have hsg12 : q17.heap.size ≤ u18.heap.size := by have h_ := hHeld.1.size; first | exact h_ | (simp only [alloc_sz] at h_; exact h_) | omega
     have hng11g12 : q17.heap.size < u18.heap.size := by have h_ := hzg11.size; first | exact h_ | (simp only [alloc_sz] at h_; exact h_) | omega
     replace hzg11 := hzg11.on (below_alloc (Below.refl _ u18) (.cells (nw 0).toArray 24))
     refine hK.out _ _ ⟨below_alloc hHeld.1 _, (HC.out.on (below_alloc hHeld.1 _)).c3⟩ (fun hHeld => ?_)
     clear hK K
     refine nm_ (some 12) ?_
     refine on1_ 10 (some 56) (bs 26 13631487) rfl fun K hK => ?_
     refine gF_ Try.func53 gf (numV y1) (numV t5) rfl ?_
     with_reducible refine (K8.out _ (HF.out.on hHeld.1)).mono ?_
     rintro e u19 ⟨rfl, hb_u19⟩
     refine ⟨_, rfl, ?_⟩
     have hq_u19 := bl_on hHeld.1 hb_u19 hHeld.1.size
     replace hzg11 := hzg11.on hb_u19
     replace hzg12 := hzg12.on hb_u19
     refine hK.out _ _ ⟨hq_u19, (HC.out.on (hq_u19)).c3⟩ (fun hHeld => ?_)
     clear hK K
     refine nm_ (some 56) ?_
     refine on1_ 20 (some 66) (bs 26 14680063) rfl fun K hK => ?_
     refine gF_ Try.func53 gf (numV t1) (numV z1) rfl ?_
     with_reducible refine (K9.out _ (HF.out.on hHeld.1)).mono ?_
     rintro e u20 ⟨rfl, hb_u20⟩
     refine ⟨_, rfl, ?_⟩
     have hq_u20 := bl_on hHeld.1 hb_u20 hHeld.1.size
     replace hzg11 := hzg11.on hb_u20
     replace hzg12 := hzg12.on hb_u20
     refine hK.out _ _ ⟨hq_u20, (HC.out.on (hq_u20)).c3⟩ (fun hHeld => ?_)
     clear hK K
     refine nm_ (some 66) ?_
     refine on1_ 21 (some 67) (bs 26 16777215) rfl fun K hK => ?_
     refine gF_ Try.func53 gf (numV y2) (numV t7) rfl ?_
     with_reducible refine (K10.out _ (HF.out.on hHeld.1)).mono ?_
     rintro e u21 ⟨rfl, hb_u21⟩
     refine ⟨_, rfl, ?_⟩
     have hq_u21 := bl_on hHeld.1 hb_u21 hHeld.1.size
     replace hzg11 := hzg11.on hb_u21
     replace hzg12 := hzg12.on hb_u21
     refine hK.out _ _ ⟨hq_u21, (HC.out.on (hq_u21)).c3⟩ (fun hHeld => ?_)
     clear hK K
     refine nm_ (some 67) ?_
     exact norm_ (by simp only [putAll, aS]) (hCont (q17.heap.size, u18.heap.size) _ ⟨hHeld.1, hzg11, hsg11, hzg12, hsg12, Nat.ne_of_lt hng11g12⟩)
   ·skip
    refine value_ (w1 := ?_) (v := ?_) (by rfl) rfl ?_ ?_
    rotate_left 2
    ·go_simp
     constructor
     ·rfl
     ·rfl
    have hzg12 : NAt (World.alloc (World.alloc (World.drew q17) (.cells (nw 0).toArray 24)) (.cells (nw 0).toArray 24)) (q17.heap.size + 1) 0 := by have h_ := Row.new (World.alloc (World.drew q17) (.cells (nw 0).toArray 24)) 24 (nw 0); first | exact h_ | (simp only [alloc_sz] at h_; exact h_) | omega
    have hsg12 : q17.heap.size ≤ q17.heap.size + 1 := by have h_ := hHeld.1.size; first | exact h_ | (simp only [alloc_sz] at h_; exact h_) | omega
    have hng11g12 : q17.heap.size < q17.heap.size + 1 := by have h_ := hzg11.size; first | exact h_ | (simp only [alloc_sz] at h_; exact h_) | omega
    replace hzg11 := hzg11.on (below_alloc (Below.refl _ (World.alloc (World.drew q17) (.cells (nw 0).toArray 24))) (.cells (nw 0).toArray 24))
    refine hK.out _ _ ⟨below_alloc hHeld.1 _, (HC.out.on (below_alloc hHeld.1 _)).c3⟩ (fun hHeld => ?_)
    clear hK K
    refine nm_ (some 12) ?_
    refine on1_ 9 (some 55) (bs 26 13630463) rfl fun K hK => ?_
    refine gF_ Try.func53 gf (numV t2) (numV z2) rfl ?_
    with_reducible refine (K7.out _ (HF.out.on hHeld.1)).mono ?_
    rintro e u18 ⟨rfl, hb_u18⟩
    refine ⟨_, rfl, ?_⟩
    have hq_u18 := bl_on hHeld.1 hb_u18 hHeld.1.size
    replace hzg11 := hzg11.on hb_u18
    replace hzg12 := hzg12.on hb_u18
    refine hK.out _ _ ⟨hq_u18, (HC.out.on (hq_u18)).c3⟩ (fun hHeld => ?_)
    clear hK K
    refine nm_ (some 55) ?_
    refine on1_ 10 (some 56) (bs 26 13631487) rfl fun K hK => ?_
    refine gF_ Try.func53 gf (numV y1) (numV t5) rfl ?_
    with_reducible refine (K8.out _ (HF.out.on hHeld.1)).mono ?_
    rintro e u19 ⟨rfl, hb_u19⟩
    refine ⟨_, rfl, ?_⟩
    have hq_u19 := bl_on hHeld.1 hb_u19 hHeld.1.size
    replace hzg11 := hzg11.on hb_u19
    replace hzg12 := hzg12.on hb_u19
    refine hK.out _ _ ⟨hq_u19, (HC.out.on (hq_u19)).c3⟩ (fun hHeld => ?_)
    clear hK K
    refine nm_ (some 56) ?_
    refine on1_ 20 (some 66) (bs 26 14680063) rfl fun K hK => ?_
    refine gF_ Try.func53 gf (numV t1) (numV z1) rfl ?_
    with_reducible refine (K9.out _ (HF.out.on hHeld.1)).mono ?_
    rintro e u20 ⟨rfl, hb_u20⟩
    refine ⟨_, rfl, ?_⟩
    have hq_u20 := bl_on hHeld.1 hb_u20 hHeld.1.size
    replace hzg11 := hzg11.on hb_u20
    replace hzg12 := hzg12.on hb_u20
    refine hK.out _ _ ⟨hq_u20, (HC.out.on (hq_u20)).c3⟩ (fun hHeld => ?_)
    clear hK K
    refine nm_ (some 66) ?_
    refine on1_ 21 (some 67) (bs 26 16777215) rfl fun K hK => ?_
    refine gF_ Try.func53 gf (numV y2) (numV t7) rfl ?_
    with_reducible refine (K10.out _ (HF.out.on hHeld.1)).mono ?_
    rintro e u21 ⟨rfl, hb_u21⟩
    refine ⟨_, rfl, ?_⟩
    have hq_u21 := bl_on hHeld.1 hb_u21 hHeld.1.size
    replace hzg11 := hzg11.on hb_u21
    replace hzg12 := hzg12.on hb_u21
    refine hK.out _ _ ⟨hq_u21, (HC.out.on (hq_u21)).c3⟩ (fun hHeld => ?_)
    clear hK K
    refine nm_ (some 67) ?_
    exact norm_ (by simp only [putAll, aS]) (hCont (q17.heap.size, q17.heap.size + 1) _ ⟨hHeld.1, hzg11, hsg11, hzg12, hsg12, Nat.ne_of_lt hng11g12⟩)
  ·skip
   refine value_ (w1 := ?_) (v := ?_) (by rfl) rfl ?_ ?_
   rotate_left 2
   ·go_simp
    constructor
    ·rfl
    ·rfl
   have hzg12 : NAt (World.alloc (World.drew q17) (.cells (nw 0).toArray 24)) (q17.heap.size) 0 := by have h_ := Row.new (World.drew q17) 24 (nw 0); first | exact h_ | (simp only [alloc_sz] at h_; exact h_) | omega
   have hsg12 : q17.heap.size ≤ q17.heap.size := by have h_ := hHeld.1.size; first | exact h_ | (simp only [alloc_sz] at h_; exact h_) | omega
   refine hK.out _ _ ⟨below_alloc hHeld.1 _, (HC.out.on (below_alloc hHeld.1 _)).c3⟩ (fun hHeld => ?_)
   clear hK K
   refine nm_ (some 12) ?_
   refine tw_ 9 22 (some 55) (some 11) (bs 26 9436159) (bs 26 13629951) rfl rfl (fun K hK => ?_) (fun K hK => ?_)
   ·skip
    refine gF_ Try.func53 gf (numV t2) (numV z2) rfl ?_
    with_reducible refine (K7.out _ (HF.out.on hHeld.1)).mono ?_
    rintro e u18 ⟨rfl, hb_u18⟩
    refine ⟨_, rfl, ?_⟩
    have hq_u18 := bl_on hHeld.1 hb_u18 hHeld.1.size
    replace hzg12 := hzg12.on hb_u18
    refine hK.out _ _ ⟨hq_u18, (HC.out.on (hq_u18)).c3⟩ (fun hHeld => ?_)
    clear hK K
    refine nm_ (some 55) ?_
    refine tw_ 10 22 (some 56) (some 11) (bs 26 9437183) (bs 26 13630463) rfl rfl (fun K hK => ?_) (fun K hK => ?_)
    ·skip
     refine gF_ Try.func53 gf (numV y1) (numV t5) rfl ?_
     with_reducible refine (K8.out _ (HF.out.on hHeld.1)).mono ?_
     rintro e u19 ⟨rfl, hb_u19⟩
     refine ⟨_, rfl, ?_⟩
     have hq_u19 := bl_on hHeld.1 hb_u19 hHeld.1.size
     replace hzg12 := hzg12.on hb_u19
     refine hK.out _ _ ⟨hq_u19, (HC.out.on (hq_u19)).c3⟩ (fun hHeld => ?_)
     clear hK K
     refine nm_ (some 56) ?_
     refine tw_ 20 22 (some 66) (some 11) (bs 26 10485759) (bs 26 13631487) rfl rfl (fun K hK => ?_) (fun K hK => ?_)
     ·skip
      refine gF_ Try.func53 gf (numV t1) (numV z1) rfl ?_
      with_reducible refine (K9.out _ (HF.out.on hHeld.1)).mono ?_
      rintro e u20 ⟨rfl, hb_u20⟩
      refine ⟨_, rfl, ?_⟩
      have hq_u20 := bl_on hHeld.1 hb_u20 hHeld.1.size
      replace hzg12 := hzg12.on hb_u20
      refine hK.out _ _ ⟨hq_u20, (HC.out.on (hq_u20)).c3⟩ (fun hHeld => ?_)
      clear hK K
      refine nm_ (some 66) ?_
      refine tw_ 21 22 (some 67) (some 11) (bs 26 12582911) (bs 26 14680063) rfl rfl (fun K hK => ?_) (fun K hK => ?_)
      ·skip
       refine gF_ Try.func53 gf (numV y2) (numV t7) rfl ?_
       with_reducible refine (K10.out _ (HF.out.on hHeld.1)).mono ?_
       rintro e u21 ⟨rfl, hb_u21⟩
       refine ⟨_, rfl, ?_⟩
       have hq_u21 := bl_on hHeld.1 hb_u21 hHeld.1.size
       replace hzg12 := hzg12.on hb_u21
       refine hK.out _ _ ⟨hq_u21, (HC.out.on (hq_u21)).c3⟩ (fun hHeld => ?_)
       clear hK K
       refine nm_ (some 67) ?_
       refine on1_ 22 (some 11) (bs 26 16777215) rfl fun K hK => ?_
       refine value_ (w1 := ?_) (v := ?_) (by rfl) rfl ?_ ?_
       rotate_left 2
       ·go_simp
        constructor
        ·rfl
        ·rfl
       have hzg11 : NAt (World.alloc u21 (.cells (nw 0).toArray 24)) (u21.heap.size) 0 := by have h_ := Row.new u21 24 (nw 0); first | exact h_ | (simp only [alloc_sz] at h_; exact h_) | omega
       have hsg11 : q17.heap.size ≤ u21.heap.size := by have h_ := hHeld.1.size; first | exact h_ | (simp only [alloc_sz] at h_; exact h_) | omega
       have hng12g11 : q17.heap.size < u21.heap.size := by have h_ := hzg12.size; first | exact h_ | (simp only [alloc_sz] at h_; exact h_) | omega
       replace hzg12 := hzg12.on (below_alloc (Below.refl _ u21) (.cells (nw 0).toArray 24))
       refine hK.out _ _ ⟨below_alloc hHeld.1 _, (HC.out.on (below_alloc hHeld.1 _)).c3⟩ (fun hHeld => ?_)
       clear hK K
       refine nm_ (some 11) ?_
       exact norm_ (by simp only [putAll, aS]) (hCont (u21.heap.size, q17.heap.size) _ ⟨hHeld.1, hzg11, hsg11, hzg12, hsg12, Nat.ne_of_gt hng12g11⟩)
      ·skip
       refine value_ (w1 := ?_) (v := ?_) (by rfl) rfl ?_ ?_
       rotate_left 2
       ·go_simp
        constructor
        ·rfl
        ·rfl
       have hzg11 : NAt (World.alloc u20 (.cells (nw 0).toArray 24)) (u20.heap.size) 0 := by have h_ := Row.new u20 24 (nw 0); first | exact h_ | (simp only [alloc_sz] at h_; exact h_) | omega
       have hsg11 : q17.heap.size ≤ u20.heap.size := by have h_ := hHeld.1.size; first | exact h_ | (simp only [alloc_sz] at h_; exact h_) | omega
       have hng12g11 : q17.heap.size < u20.heap.size := by have h_ := hzg12.size; first | exact h_ | (simp only [alloc_sz] at h_; exact h_) | omega
       replace hzg12 := hzg12.on (below_alloc (Below.refl _ u20) (.cells (nw 0).toArray 24))
       refine hK.out _ _ ⟨below_alloc hHeld.1 _, (HC.out.on (below_alloc hHeld.1 _)).c3⟩ (fun hHeld => ?_)
       clear hK K
       refine nm_ (some 11) ?_
       refine on1_ 21 (some 67) (bs 26 16777215) rfl fun K hK => ?_
       refine gF_ Try.func53 gf (numV y2) (numV t7) rfl ?_
       with_reducible refine (K10.out _ (HF.out.on hHeld.1)).mono ?_
       rintro e u21 ⟨rfl, hb_u21⟩
       refine ⟨_, rfl, ?_⟩
       have hq_u21 := bl_on hHeld.1 hb_u21 hHeld.1.size
       replace hzg12 := hzg12.on hb_u21
       replace hzg11 := hzg11.on hb_u21
       refine hK.out _ _ ⟨hq_u21, (HC.out.on (hq_u21)).c3⟩ (fun hHeld => ?_)
       clear hK K
       refine nm_ (some 67) ?_
       exact norm_ (by simp only [putAll, aS]) (hCont (u20.heap.size, q17.heap.size) _ ⟨hHeld.1, hzg11, hsg11, hzg12, hsg12, Nat.ne_of_gt hng12g11⟩)
     ·skip
      refine value_ (w1 := ?_) (v := ?_) (by rfl) rfl ?_ ?_
      rotate_left 2
      ·go_simp
       constructor
       ·rfl
       ·rfl
      have hzg11 : NAt (World.alloc u19 (.cells (nw 0).toArray 24)) (u19.heap.size) 0 := by have h_ := Row.new u19 24 (nw 0); first | exact h_ | (simp only [alloc_sz] at h_; exact h_) | omega
      have hsg11 : q17.heap.size ≤ u19.heap.size := by have h_ := hHeld.1.size; first | exact h_ | (simp only [alloc_sz] at h_; exact h_) | omega
      have hng12g11 : q17.heap.size < u19.heap.size := by have h_ := hzg12.size; first | exact h_ | (simp only [alloc_sz] at h_; exact h_) | omega
      replace hzg12 := hzg12.on (below_alloc (Below.refl _ u19) (.cells (nw 0).toArray 24))
      refine hK.out _ _ ⟨below_alloc hHeld.1 _, (HC.out.on (below_alloc hHeld.1 _)).c3⟩ (fun hHeld => ?_)
      clear hK K
      refine nm_ (some 11) ?_
      refine on1_ 20 (some 66) (bs 26 14680063) rfl fun K hK => ?_
      refine gF_ Try.func53 gf (numV t1) (numV z1) rfl ?_
      with_reducible refine (K9.out _ (HF.out.on hHeld.1)).mono ?_
      rintro e u20 ⟨rfl, hb_u20⟩
      refine ⟨_, rfl, ?_⟩
      have hq_u20 := bl_on hHeld.1 hb_u20 hHeld.1.size
      replace hzg12 := hzg12.on hb_u20
      replace hzg11 := hzg11.on hb_u20
      refine hK.out _ _ ⟨hq_u20, (HC.out.on (hq_u20)).c3⟩ (fun hHeld => ?_)
      clear hK K
      refine nm_ (some 66) ?_
      refine on1_ 21 (some 67) (bs 26 16777215) rfl fun K hK => ?_
      refine gF_ Try.func53 gf (numV y2) (numV t7) rfl ?_
      with_reducible refine (K10.out _ (HF.out.on hHeld.1)).mono ?_
      rintro e u21 ⟨rfl, hb_u21⟩
      refine ⟨_, rfl, ?_⟩
      have hq_u21 := bl_on hHeld.1 hb_u21 hHeld.1.size
      replace hzg12 := hzg12.on hb_u21
      replace hzg11 := hzg11.on hb_u21
      refine hK.out _ _ ⟨hq_u21, (HC.out.on (hq_u21)).c3⟩ (fun hHeld => ?_)
      clear hK K
      refine nm_ (some 67) ?_
      exact norm_ (by simp only [putAll, aS]) (hCont (u19.heap.size, q17.heap.size) _ ⟨hHeld.1, hzg11, hsg11, hzg12, hsg12, Nat.ne_of_gt hng12g11⟩)
    ·skip
     refine value_ (w1 := ?_) (v := ?_) (by rfl) rfl ?_ ?_
     rotate_left 2
     ·go_simp
      constructor
      ·rfl
      ·rfl
     have hzg11 : NAt (World.alloc u18 (.cells (nw 0).toArray 24)) (u18.heap.size) 0 := by have h_ := Row.new u18 24 (nw 0); first | exact h_ | (simp only [alloc_sz] at h_; exact h_) | omega
     have hsg11 : q17.heap.size ≤ u18.heap.size := by have h_ := hHeld.1.size; first | exact h_ | (simp only [alloc_sz] at h_; exact h_) | omega
     have hng12g11 : q17.heap.size < u18.heap.size := by have h_ := hzg12.size; first | exact h_ | (simp only [alloc_sz] at h_; exact h_) | omega
     replace hzg12 := hzg12.on (below_alloc (Below.refl _ u18) (.cells (nw 0).toArray 24))
     refine hK.out _ _ ⟨below_alloc hHeld.1 _, (HC.out.on (below_alloc hHeld.1 _)).c3⟩ (fun hHeld => ?_)
     clear hK K
     refine nm_ (some 11) ?_
     refine on1_ 10 (some 56) (bs 26 13631487) rfl fun K hK => ?_
     refine gF_ Try.func53 gf (numV y1) (numV t5) rfl ?_
     with_reducible refine (K8.out _ (HF.out.on hHeld.1)).mono ?_
     rintro e u19 ⟨rfl, hb_u19⟩
     refine ⟨_, rfl, ?_⟩
     have hq_u19 := bl_on hHeld.1 hb_u19 hHeld.1.size
     replace hzg12 := hzg12.on hb_u19
     replace hzg11 := hzg11.on hb_u19
     refine hK.out _ _ ⟨hq_u19, (HC.out.on (hq_u19)).c3⟩ (fun hHeld => ?_)
     clear hK K
     refine nm_ (some 56) ?_
     refine on1_ 20 (some 66) (bs 26 14680063) rfl fun K hK => ?_
     refine gF_ Try.func53 gf (numV t1) (numV z1) rfl ?_
     with_reducible refine (K9.out _ (HF.out.on hHeld.1)).mono ?_
     rintro e u20 ⟨rfl, hb_u20⟩
     refine ⟨_, rfl, ?_⟩
     have hq_u20 := bl_on hHeld.1 hb_u20 hHeld.1.size
     replace hzg12 := hzg12.on hb_u20
     replace hzg11 := hzg11.on hb_u20
     refine hK.out _ _ ⟨hq_u20, (HC.out.on (hq_u20)).c3⟩ (fun hHeld => ?_)
     clear hK K
     refine nm_ (some 66) ?_
     refine on1_ 21 (some 67) (bs 26 16777215) rfl fun K hK => ?_
     refine gF_ Try.func53 gf (numV y2) (numV t7) rfl ?_
     with_reducible refine (K10.out _ (HF.out.on hHeld.1)).mono ?_
     rintro e u21 ⟨rfl, hb_u21⟩
     refine ⟨_, rfl, ?_⟩
     have hq_u21 := bl_on hHeld.1 hb_u21 hHeld.1.size
     replace hzg12 := hzg12.on hb_u21
     replace hzg11 := hzg11.on hb_u21
     refine hK.out _ _ ⟨hq_u21, (HC.out.on (hq_u21)).c3⟩ (fun hHeld => ?_)
     clear hK K
     refine nm_ (some 67) ?_
     exact norm_ (by simp only [putAll, aS]) (hCont (u18.heap.size, q17.heap.size) _ ⟨hHeld.1, hzg11, hsg11, hzg12, hsg12, Nat.ne_of_gt hng12g11⟩)
   ·skip
    refine value_ (w1 := ?_) (v := ?_) (by rfl) rfl ?_ ?_
    rotate_left 2
    ·go_simp
     constructor
     ·rfl
     ·rfl
    have hzg11 : NAt (World.alloc (World.alloc (World.drew q17) (.cells (nw 0).toArray 24)) (.cells (nw 0).toArray 24)) (q17.heap.size + 1) 0 := by have h_ := Row.new (World.alloc (World.drew q17) (.cells (nw 0).toArray 24)) 24 (nw 0); first | exact h_ | (simp only [alloc_sz] at h_; exact h_) | omega
    have hsg11 : q17.heap.size ≤ q17.heap.size + 1 := by have h_ := hHeld.1.size; first | exact h_ | (simp only [alloc_sz] at h_; exact h_) | omega
    have hng12g11 : q17.heap.size < q17.heap.size + 1 := by have h_ := hzg12.size; first | exact h_ | (simp only [alloc_sz] at h_; exact h_) | omega
    replace hzg12 := hzg12.on (below_alloc (Below.refl _ (World.alloc (World.drew q17) (.cells (nw 0).toArray 24))) (.cells (nw 0).toArray 24))
    refine hK.out _ _ ⟨below_alloc hHeld.1 _, (HC.out.on (below_alloc hHeld.1 _)).c3⟩ (fun hHeld => ?_)
    clear hK K
    refine nm_ (some 11) ?_
    refine on1_ 9 (some 55) (bs 26 13630463) rfl fun K hK => ?_
    refine gF_ Try.func53 gf (numV t2) (numV z2) rfl ?_
    with_reducible refine (K7.out _ (HF.out.on hHeld.1)).mono ?_
    rintro e u18 ⟨rfl, hb_u18⟩
    refine ⟨_, rfl, ?_⟩
    have hq_u18 := bl_on hHeld.1 hb_u18 hHeld.1.size
    replace hzg12 := hzg12.on hb_u18
    replace hzg11 := hzg11.on hb_u18
    refine hK.out _ _ ⟨hq_u18, (HC.out.on (hq_u18)).c3⟩ (fun hHeld => ?_)
    clear hK K
    refine nm_ (some 55) ?_
    refine on1_ 10 (some 56) (bs 26 13631487) rfl fun K hK => ?_
    refine gF_ Try.func53 gf (numV y1) (numV t5) rfl ?_
    with_reducible refine (K8.out _ (HF.out.on hHeld.1)).mono ?_
    rintro e u19 ⟨rfl, hb_u19⟩
    refine ⟨_, rfl, ?_⟩
    have hq_u19 := bl_on hHeld.1 hb_u19 hHeld.1.size
    replace hzg12 := hzg12.on hb_u19
    replace hzg11 := hzg11.on hb_u19
    refine hK.out _ _ ⟨hq_u19, (HC.out.on (hq_u19)).c3⟩ (fun hHeld => ?_)
    clear hK K
    refine nm_ (some 56) ?_
    refine on1_ 20 (some 66) (bs 26 14680063) rfl fun K hK => ?_
    refine gF_ Try.func53 gf (numV t1) (numV z1) rfl ?_
    with_reducible refine (K9.out _ (HF.out.on hHeld.1)).mono ?_
    rintro e u20 ⟨rfl, hb_u20⟩
    refine ⟨_, rfl, ?_⟩
    have hq_u20 := bl_on hHeld.1 hb_u20 hHeld.1.size
    replace hzg12 := hzg12.on hb_u20
    replace hzg11 := hzg11.on hb_u20
    refine hK.out _ _ ⟨hq_u20, (HC.out.on (hq_u20)).c3⟩ (fun hHeld => ?_)
    clear hK K
    refine nm_ (some 66) ?_
    refine on1_ 21 (some 67) (bs 26 16777215) rfl fun K hK => ?_
    refine gF_ Try.func53 gf (numV y2) (numV t7) rfl ?_
    with_reducible refine (K10.out _ (HF.out.on hHeld.1)).mono ?_
    rintro e u21 ⟨rfl, hb_u21⟩
    refine ⟨_, rfl, ?_⟩
    have hq_u21 := bl_on hHeld.1 hb_u21 hHeld.1.size
    replace hzg12 := hzg12.on hb_u21
    replace hzg11 := hzg11.on hb_u21
    refine hK.out _ _ ⟨hq_u21, (HC.out.on (hq_u21)).c3⟩ (fun hHeld => ?_)
    clear hK K
    refine nm_ (some 67) ?_
    exact norm_ (by simp only [putAll, aS]) (hCont (q17.heap.size + 1, q17.heap.size) _ ⟨hHeld.1, hzg11, hsg11, hzg12, hsg12, Nat.ne_of_gt hng12g11⟩)
 rintro ⟨g11, g12⟩ v22 ⟨hHeld0, hzg11, hsg11, hzg12, hsg12, hneg11g12⟩
 have hHeld : Below q17.heap.size q17 v22 ∧ v22.cell? ⟨w.heap.size, 3, none⟩ = some (mthV 53 gf) := ⟨hHeld0, (HC.out.on (hHeld0)).c3⟩
 clear hHeld0
 refine norm_ (a' := ?_) ?_ ?_
 rotate_left
 ·simp only [putAll, aS]
  rfl
 refine on1_ 24 none (bs 26 33554431) rfl fun K hK => ?_
 refine skip_num (hzg11) (by rfl) rfl (.tmp 11) (.tmp 56) rfl rfl rfl ?_
 intro q23 hA_q23 hT_q23
 refine hK.out _ _ ⟨bl_but hHeld.1 hT_q23 hHeld.1.size hsg11, (HC.out.on (bl_but hHeld.1 hT_q23 hHeld.1.size hsg11)).c3⟩ (fun hHeld => ?_)
 clear hK K
 refine last_ (i := 25) (N := none) (bs 26 67108863) rfl rfl (by kernel_rfl) (by decide) (fun K hK => ?_)
 refine skip_num ((hzg12).but hT_q23 hneg11g12.symm) (by rfl) rfl (.tmp 12) (.tmp 67) rfl rfl rfl ?_
 intro q24 hA_q24 hT_q24
 refine hK.out _ _ ?_
 clear hK K
 refine done_ (by kernel_rfl) ?_
 have HXg11 : Aside0 (w.heap.size + 1 + 1 + 1 + 1 ≤ g11 ∧ g7 < g11 ∧ g8 < g11 ∧ g9 < g11 ∧ g10 < g11) := Aside0.mk (⟨Nat.le_trans HS.out hsg11, Nat.lt_of_lt_of_le Hg7.out.size hsg11, Nat.lt_of_lt_of_le Hg8.out.size hsg11, Nat.lt_of_lt_of_le Hg9.out.size hsg11, Nat.lt_of_lt_of_le Hg10.out.size hsg11⟩)
 have HXg12 : Aside0 (w.heap.size + 1 + 1 + 1 + 1 ≤ g12 ∧ g7 < g12 ∧ g8 < g12 ∧ g9 < g12 ∧ g10 < g12) := Aside0.mk (⟨Nat.le_trans HS.out hsg12, Nat.lt_of_lt_of_le Hg7.out.size hsg12, Nat.lt_of_lt_of_le Hg8.out.size hsg12, Nat.lt_of_lt_of_le Hg9.out.size hsg12, Nat.lt_of_lt_of_le Hg10.out.size hsg12⟩)
 have HXg11g12 : Aside0 (g11 ≠ g12) := Aside0.mk hneg11g12
 replace HC := Aside0.mk (HC.out.on hHeld.1)
 replace HP1 := Aside0.mk (HP1.out.on hHeld.1)
 replace HP2 := Aside0.mk (HP2.out.on hHeld.1)
 replace HR := Aside0.mk (HR.out.on hHeld.1)
 replace Hg7 := Aside0.mk (Hg7.out.on hHeld.1)
 replace Hg8 := Aside0.mk (Hg8.out.on hHeld.1)
 replace Hg9 := Aside0.mk (Hg9.out.on hHeld.1)
 replace Hg10 := Aside0.mk (Hg10.out.on hHeld.1)
 replace HF := Aside0.mk (HF.out.on hHeld.1)
 replace HB := Aside0.mk (bl_on HB.out hHeld.1 HB.out.size)
 replace HS := Aside0.mk (Nat.le_trans HS.out hHeld.1.size)
 have Hg11 := Aside0.mk hA_q23
 replace HC := Aside0.mk (HC.out.but hT_q24 (by have := HXg7.out; have := HXg8.out; have := HXg9.out; have := HXg10.out; have := HXg11.out; have := HXg12.out; have := HXg7g8.out; have := HXg9g10.out; have := HXg11g12.out; have := HG.out; omega))
 replace HP1 := Aside0.mk (HP1.out.but hT_q24 (by have := HXg7.out; have := HXg8.out; have := HXg9.out; have := HXg10.out; have := HXg11.out; have := HXg12.out; have := HXg7g8.out; have := HXg9g10.out; have := HXg11g12.out; have := HG.out; omega))
 replace HP2 := Aside0.mk (HP2.out.but hT_q24 (by have := HXg7.out; have := HXg8.out; have := HXg9.out; have := HXg10.out; have := HXg11.out; have := HXg12.out; have := HXg7g8.out; have := HXg9g10.out; have := HXg11g12.out; have := HG.out; omega))
 replace HR := Aside0.mk (HR.out.but hT_q24 (by have := HXg7.out; have := HXg8.out; have := HXg9.out; have := HXg10.out; have := HXg11.out; have := HXg12.out; have := HXg7g8.out; have := HXg9g10.out; have := HXg11g12.out; have := HG.out; omega))
 replace Hg7 := Aside0.mk (Hg7.out.but hT_q24 (by have := HXg7.out; have := HXg8.out; have := HXg9.out; have := HXg10.out; have := HXg11.out; have := HXg12.out; have := HXg7g8.out; have := HXg9g10.out; have := HXg11g12.out; have := HG.out; omega))
 replace Hg8 := Aside0.mk (Hg8.out.but hT_q24 (by have := HXg7.out; have := HXg8.out; have := HXg9.out; have := HXg10.out; have := HXg11.out; have := HXg12.out; have := HXg7g8.out; have := HXg9g10.out; have := HXg11g12.out; have := HG.out; omega))
 replace Hg9 := Aside0.mk (Hg9.out.but hT_q24 (by have := HXg7.out; have := HXg8.out; have := HXg9.out; have := HXg10.out; have := HXg11.out; have := HXg12.out; have := HXg7g8.out; have := HXg9g10.out; have := HXg11g12.out; have := HG.out; omega))
 replace Hg10 := Aside0.mk (Hg10.out.but hT_q24 (by have := HXg7.out; have := HXg8.out; have := HXg9.out; have := HXg10.out; have := HXg11.out; have := HXg12.out; have := HXg7g8.out; have := HXg9g10.out; have := HXg11g12.out; have := HG.out; omega))
 replace Hg11 := Aside0.mk (Hg11.out.but hT_q24 (by have := HXg7.out; have := HXg8.out; have := HXg9.out; have := HXg10.out; have := HXg11.out; have := HXg12.out; have := HXg7g8.out; have := HXg9g10.out; have := HXg11g12.out; have := HG.out; omega))
 replace HF := Aside0.mk (HF.out.but hT_q24 (by have := HXg7.out; have := HXg8.out; have := HXg9.out; have := HXg10.out; have := HXg11.out; have := HXg12.out; have := HXg7g8.out; have := HXg9g10.out; have := HXg11g12.out; have := HG.out; omega))
 have Hg12 := Aside0.mk hA_q24
 replace HB := Aside0.mk (bl_but HB.out hT_q24 HB.out.size (by have := HXg7.out; have := HXg8.out; have := HXg9.out; have := HXg10.out; have := HXg11.out; have := HXg12.out; have := HXg7g8.out; have := HXg9g10.out; have := HXg11g12.out; have := HG.out; omega))
 replace HS := Aside0.mk (Nat.le_trans HS.out hT_q24.size)
 clear hA_q23 hT_q23 hA_q24 hT_q24 hzg11 hsg11 hzg12 hsg12 hneg11g12 hHeld
 go_wp2
 refine start_ (n := 12) (S := fun w' => Below q24.heap.size q24 w' ∧ w'.cell? ⟨w.heap.size, 2, none⟩ = some (mthV 52 gf)) (ds := [10, 11]) (bs 12 0) (by kernel_rfl) rfl rfl ⟨(Below.refl _ _).drew, HC.out.c2⟩ (fun hHeld => ?_)
 refine pu_ 0 68 (bs 12 1) ?_ ?_ ?_ ?_ ?_
 rotate_left
 ·intro w'
  go_simp
  with_reducible rfl
 rotate_left
 ·simp only [aS, i64_w, i32_w]
  rfl
 refine pu_ 5 73 (bs 12 33) ?_ ?_ ?_ ?_ ?_
 rotate_left
 ·intro w'
  go_simp
  with_reducible rfl
 rotate_left
 ·simp only [aS, i64_w, i32_w]
  rfl
 refine tk_ 1 69 (bs 12 35) ?_ ?_ hHeld ?_ ?_ ?_
 rotate_left
 ·rintro w' ⟨s0, s1⟩
  go_simp
  with_reducible rfl
 rotate_left
 ·simp only [aS, i64_w, i32_w]
  rfl
 refine take_ (i := 2) (N := some 70) (a' := ?_) (bs 12 39) rfl rfl (by kernel_rfl) (fun _ _ _ h => h) (yields_num (g := g10) (o := 0) (n := t4) (by rfl) (.tmp 10) rfl rfl (fun w' hS => (Hg10.out.on hS.1).range)) hHeld ?_ ?_
 rotate_left
 ·simp only [aS, i64_w, i32_w]
  rfl
 refine take_ (i := 3) (N := some 71) (a' := ?_) (bs 12 47) rfl rfl (by kernel_rfl) (fun _ _ _ h => h) (yields_num (g := g9) (o := 0) (n := t3) (by rfl) (.tmp 9) rfl rfl (fun w' hS => (Hg9.out.on hS.1).range)) hHeld ?_ ?_
 rotate_left
 ·simp only [aS, i64_w, i32_w]
  rfl
 refine tk_ 6 74 (bs 12 111) ?_ ?_ hHeld ?_ ?_ ?_
 rotate_left
 ·rintro w' ⟨s0, s1⟩
  go_simp
  with_reducible rfl
 rotate_left
 ·simp only [aS, i64_w, i32_w]
  rfl
 refine take_ (i := 7) (N := some 75) (a' := ?_) (bs 12 239) rfl rfl (by kernel_rfl) (fun _ _ _ h => h) (yields_num (g := g12) (o := 0) (n := t8) (by rfl) (.tmp 12) rfl rfl (fun w' hS => (Hg12.out.on hS.1).range)) hHeld ?_ ?_
 rotate_left
 ·simp only [aS, i64_w, i32_w]
  rfl
 refine take_ (i := 8) (N := some 76) (a' := ?_) (bs 12 495) rfl rfl (by kernel_rfl) (fun _ _ _ h => h) (yields_num (g := g11) (o := 0) (n := t6) (by rfl) (.tmp 11) rfl rfl (fun w' hS => (Hg11.out.on hS.1).range)) hHeld ?_ ?_
 rotate_left
 ·simp only [aS, i64_w, i32_w]
  rfl
 refine on1_ 4 (some 72) (bs 12 511) rfl fun K hK => ?_
 refine gF_ Try.func52 gf (numV t4) (numV t3) rfl ?_
 with_reducible refine (K11.out _ (HF.out.on hHeld.1)).mono ?_
 rintro e u25 ⟨rfl, hb_u25⟩
 refine ⟨_, rfl, ?_⟩
 have hq_u25 := bl_on hHeld.1 hb_u25 hHeld.1.size
 refine hK.out _ _ ⟨hq_u25, (HC.out.on (hq_u25)).c2⟩ (fun hHeld => ?_)
 clear hK K
 refine nm_ (some 72) ?_
 refine on1_ 9 (some 77) (bs 12 1023) rfl fun K hK => ?_
 refine gF_ Try.func52 gf (numV t8) (numV t6) rfl ?_
 with_reducible refine (K12.out _ (HF.out.on hHeld.1)).mono ?_
 rintro e u26 ⟨rfl, hb_u26⟩
 refine ⟨_, rfl, ?_⟩
 have hq_u26 := bl_on hHeld.1 hb_u26 hHeld.1.size
 refine hK.out _ _ ⟨hq_u26, (HC.out.on (hq_u26)).c2⟩ (fun hHeld => ?_)
 clear hK K
 refine nm_ (some 77) ?_
 refine last_ (i := 10) (N := none) (bs 12 2047) rfl rfl (by kernel_rfl) (by decide) (fun K hK => ?_)
 refine skip_num (Hg10.out.on hHeld.1) (by rfl) rfl (.tmp 10) (.tmp 72) rfl rfl rfl ?_
 intro q27 hA_q27 hT_q27
 refine hK.out _ _ ?_
 clear hK K
 refine last_ (i := 11) (N := none) (bs 12 4095) rfl rfl (by kernel_rfl) (by decide) (fun K hK => ?_)
 refine skip_num ((Hg12.out.on hHeld.1).but hT_q27 (by have := HXg7.out; have := HXg8.out; have := HXg9.out; have := HXg10.out; have := HXg11.out; have := HXg12.out; have := HXg7g8.out; have := HXg9g10.out; have := HXg11g12.out; have := HG.out; omega)) (by rfl) rfl (.tmp 12) (.tmp 77) rfl rfl rfl ?_
 intro q28 hA_q28 hT_q28
 refine hK.out _ _ ?_
 clear hK K
 refine done_ (by kernel_rfl) ?_
 replace HC := Aside0.mk (HC.out.on hHeld.1)
 replace HP1 := Aside0.mk (HP1.out.on hHeld.1)
 replace HP2 := Aside0.mk (HP2.out.on hHeld.1)
 replace HR := Aside0.mk (HR.out.on hHeld.1)
 replace Hg7 := Aside0.mk (Hg7.out.on hHeld.1)
 replace Hg8 := Aside0.mk (Hg8.out.on hHeld.1)
 replace Hg9 := Aside0.mk (Hg9.out.on hHeld.1)
 replace Hg10 := Aside0.mk (Hg10.out.on hHeld.1)
 replace Hg11 := Aside0.mk (Hg11.out.on hHeld.1)
 replace Hg12 := Aside0.mk (Hg12.out.on hHeld.1)
 replace HF := Aside0.mk (HF.out.on hHeld.1)
 replace HB := Aside0.mk (bl_on HB.out hHeld.1 HB.out.size)
 replace HS := Aside0.mk (Nat.le_trans HS.out hHeld.1.size)
 replace HC := Aside0.mk (HC.out.but hT_q27 (by have := HXg7.out; have := HXg8.out; have := HXg9.out; have := HXg10.out; have := HXg11.out; have := HXg12.out; have := HXg7g8.out; have := HXg9g10.out; have := HXg11g12.out; have := HG.out; omega))
 replace HP1 := Aside0.mk (HP1.out.but hT_q27 (by have := HXg7.out; have := HXg8.out; have := HXg9.out; have := HXg10.out; have := HXg11.out; have := HXg12.out; have := HXg7g8.out; have := HXg9g10.out; have := HXg11g12.out; have := HG.out; omega))
 replace HP2 := Aside0.mk (HP2.out.but hT_q27 (by have := HXg7.out; have := HXg8.out; have := HXg9.out; have := HXg10.out; have := HXg11.out; have := HXg12.out; have := HXg7g8.out; have := HXg9g10.out; have := HXg11g12.out; have := HG.out; omega))
 replace HR := Aside0.mk (HR.out.but hT_q27 (by have := HXg7.out; have := HXg8.out; have := HXg9.out; have := HXg10.out; have := HXg11.out; have := HXg12.out; have := HXg7g8.out; have := HXg9g10.out; have := HXg11g12.out; have := HG.out; omega))
 replace Hg7 := Aside0.mk (Hg7.out.but hT_q27 (by have := HXg7.out; have := HXg8.out; have := HXg9.out; have := HXg10.out; have := HXg11.out; have := HXg12.out; have := HXg7g8.out; have := HXg9g10.out; have := HXg11g12.out; have := HG.out; omega))
 replace Hg8 := Aside0.mk (Hg8.out.but hT_q27 (by have := HXg7.out; have := HXg8.out; have := HXg9.out; have := HXg10.out; have := HXg11.out; have := HXg12.out; have := HXg7g8.out; have := HXg9g10.out; have := HXg11g12.out; have := HG.out; omega))
 replace Hg9 := Aside0.mk (Hg9.out.but hT_q27 (by have := HXg7.out; have := HXg8.out; have := HXg9.out; have := HXg10.out; have := HXg11.out; have := HXg12.out; have := HXg7g8.out; have := HXg9g10.out; have := HXg11g12.out; have := HG.out; omega))
 replace Hg11 := Aside0.mk (Hg11.out.but hT_q27 (by have := HXg7.out; have := HXg8.out; have := HXg9.out; have := HXg10.out; have := HXg11.out; have := HXg12.out; have := HXg7g8.out; have := HXg9g10.out; have := HXg11g12.out; have := HG.out; omega))
 replace Hg12 := Aside0.mk (Hg12.out.but hT_q27 (by have := HXg7.out; have := HXg8.out; have := HXg9.out; have := HXg10.out; have := HXg11.out; have := HXg12.out; have := HXg7g8.out; have := HXg9g10.out; have := HXg11g12.out; have := HG.out; omega))
 replace HF := Aside0.mk (HF.out.but hT_q27 (by have := HXg7.out; have := HXg8.out; have := HXg9.out; have := HXg10.out; have := HXg11.out; have := HXg12.out; have := HXg7g8.out; have := HXg9g10.out; have := HXg11g12.out; have := HG.out; omega))
 replace Hg10 := Aside0.mk hA_q27
 replace HB := Aside0.mk (bl_but HB.out hT_q27 HB.out.size (by have := HXg7.out; have := HXg8.out; have := HXg9.out; have := HXg10.out; have := HXg11.out; have := HXg12.out; have := HXg7g8.out; have := HXg9g10.out; have := HXg11g12.out; have := HG.out; omega))
 replace HS := Aside0.mk (Nat.le_trans HS.out hT_q27.size)
 replace HC := Aside0.mk (HC.out.but hT_q28 (by have := HXg7.out; have := HXg8.out; have := HXg9.out; have := HXg10.out; have := HXg11.out; have := HXg12.out; have := HXg7g8.out; have := HXg9g10.out; have := HXg11g12.out; have := HG.out; omega))
 replace HP1 := Aside0.mk (HP1.out.but hT_q28 (by have := HXg7.out; have := HXg8.out; have := HXg9.out; have := HXg10.out; have := HXg11.out; have := HXg12.out; have := HXg7g8.out; have := HXg9g10.out; have := HXg11g12.out; have := HG.out; omega))
 replace HP2 := Aside0.mk (HP2.out.but hT_q28 (by have := HXg7.out; have := HXg8.out; have := HXg9.out; have := HXg10.out; have := HXg11.out; have := HXg12.out; have := HXg7g8.out; have := HXg9g10.out; have := HXg11g12.out; have := HG.out; omega))
 replace HR := Aside0.mk (HR.out.but hT_q28 (by have := HXg7.out; have := HXg8.out; have := HXg9.out; have := HXg10.out; have := HXg11.out; have := HXg12.out; have := HXg7g8.out; have := HXg9g10.out; have := HXg11g12.out; have := HG.out; omega))
 replace Hg7 := Aside0.mk (Hg7.out.but hT_q28 (by have := HXg7.out; have := HXg8.out; have := HXg9.out; have := HXg10.out; have := HXg11.out; have := HXg12.out; have := HXg7g8.out; have := HXg9g10.out; have := HXg11g12.out; have := HG.out; omega))
 replace Hg8 := Aside0.mk (Hg8.out.but hT_q28 (by have := HXg7.out; have := HXg8.out; have := HXg9.out; have := HXg10.out; have := HXg11.out; have := HXg12.out; have := HXg7g8.out; have := HXg9g10.out; have := HXg11g12.out; have := HG.out; omega))
 replace Hg9 := Aside0.mk (Hg9.out.but hT_q28 (by have := HXg7.out; have := HXg8.out; have := HXg9.out; have := HXg10.out; have := HXg11.out; have := HXg12.out; have := HXg7g8.out; have := HXg9g10.out; have := HXg11g12.out; have := HG.out; omega))
 replace Hg10 := Aside0.mk (Hg10.out.but hT_q28 (by have := HXg7.out; have := HXg8.out; have := HXg9.out; have := HXg10.out; have := HXg11.out; have := HXg12.out; have := HXg7g8.out; have := HXg9g10.out; have := HXg11g12.out; have := HG.out; omega))
 replace Hg11 := Aside0.mk (Hg11.out.but hT_q28 (by have := HXg7.out; have := HXg8.out; have := HXg9.out; have := HXg10.out; have := HXg11.out; have := HXg12.out; have := HXg7g8.out; have := HXg9g10.out; have := HXg11g12.out; have := HG.out; omega))
 replace HF := Aside0.mk (HF.out.but hT_q28 (by have := HXg7.out; have := HXg8.out; have := HXg9.out; have := HXg10.out; have := HXg11.out; have := HXg12.out; have := HXg7g8.out; have := HXg9g10.out; have := HXg11g12.out; have := HG.out; omega))
 replace Hg12 := Aside0.mk hA_q28
 replace HB := Aside0.mk (bl_but HB.out hT_q28 HB.out.size (by have := HXg7.out; have := HXg8.out; have := HXg9.out; have := HXg10.out; have := HXg11.out; have := HXg12.out; have := HXg7g8.out; have := HXg9g10.out; have := HXg11g12.out; have := HG.out; omega))
 replace HS := Aside0.mk (Nat.le_trans HS.out hT_q28.size)
 clear hA_q27 hT_q27 hA_q28 hT_q28 hb_u25 hb_u26 hHeld
 by_cases h_t9 : t9 = 0
 ·by_cases h_t10 : t10 = 0
  ·skip
   have q_t9 := fun w => eql_is0 BN_t9.out h_t9 w
   have q_t10 := fun w => eql_is0 BN_t10.out h_t10 w
   have QR := Aside0.mk (R1.out h_t9 h_t10)
   clear h_t9 h_t10 R1 R2 R3
   go_upto_region 10 with (first | ((with_reducible refine gate_dst (N := 79) rfl ?_); refine ld_num (Hg10.out.range) rfl _ rfl rfl ?_) | ((with_reducible refine gate_dst (N := 83) rfl ?_); refine ld_numG (Hg12.out.range) (by rfl) _ rfl rfl ?_))
   go_wp2_with (first | ((with_reducible refine gate_dst (N := 87) rfl ?_); refine ld_cv HC.out rfl _ rfl rfl ?_) | ((with_reducible refine gate_dst (N := 88) rfl ?_); refine ld_th HP1.out rfl _ rfl rfl ?_) | ((with_reducible refine gate_dst (N := 89) rfl ?_); refine goesL_ (some 89) rfl rfl Try.func41 (by kernel_rfl) rfl #[cvV gf, thV x1 y1 z1] rfl (by (try simp only [List.map_toArray, List.map_cons, List.map_nil]); first | done | rfl) ?_; (with_reducible refine (K13.out _ (HF.out)).mono ?_); rintro e u29 ⟨rfl, hb_⟩; refine ⟨_, rfl, ?_⟩; replace HC := Aside0.mk (HC.out.on hb_); replace HP1 := Aside0.mk (HP1.out.on hb_); replace HP2 := Aside0.mk (HP2.out.on hb_); replace HR := Aside0.mk (HR.out.on hb_); replace Hg7 := Aside0.mk (Hg7.out.on hb_); replace Hg8 := Aside0.mk (Hg8.out.on hb_); replace Hg9 := Aside0.mk (Hg9.out.on hb_); replace Hg10 := Aside0.mk (Hg10.out.on hb_); replace Hg11 := Aside0.mk (Hg11.out.on hb_); replace Hg12 := Aside0.mk (Hg12.out.on hb_); replace HF := Aside0.mk (HF.out.on hb_); replace HB := Aside0.mk (bl_on HB.out hb_ HB.out.size); replace HS := Aside0.mk (Nat.le_trans HS.out hb_.size); clear hb_) | ((with_reducible refine gate_st (y := .tmp 89) rfl ?_); (try simp only [aS]); refine st_th (x := ((twJ x1 y1 z1).1)) (y := ((twJ x1 y1 z1).2.1)) (z := ((twJ x1 y1 z1).2.2)) HR.out rfl _ _ rfl rfl rfl ?_; intro u30 hn_ hb_; replace HC := Aside0.mk (HC.out.but hb_ (by have := HXg7.out; have := HXg8.out; have := HXg9.out; have := HXg10.out; have := HXg11.out; have := HXg12.out; have := HXg7g8.out; have := HXg9g10.out; have := HXg11g12.out; have := HG.out; omega)); replace HP1 := Aside0.mk (HP1.out.but hb_ (by have := HXg7.out; have := HXg8.out; have := HXg9.out; have := HXg10.out; have := HXg11.out; have := HXg12.out; have := HXg7g8.out; have := HXg9g10.out; have := HXg11g12.out; have := HG.out; omega)); replace HP2 := Aside0.mk (HP2.out.but hb_ (by have := HXg7.out; have := HXg8.out; have := HXg9.out; have := HXg10.out; have := HXg11.out; have := HXg12.out; have := HXg7g8.out; have := HXg9g10.out; have := HXg11g12.out; have := HG.out; omega)); replace Hg7 := Aside0.mk (Hg7.out.but hb_ (by have := HXg7.out; have := HXg8.out; have := HXg9.out; have := HXg10.out; have := HXg11.out; have := HXg12.out; have := HXg7g8.out; have := HXg9g10.out; have := HXg11g12.out; have := HG.out; omega)); replace Hg8 := Aside0.mk (Hg8.out.but hb_ (by have := HXg7.out; have := HXg8.out; have := HXg9.out; have := HXg10.out; have := HXg11.out; have := HXg12.out; have := HXg7g8.out; have := HXg9g10.out; have := HXg11g12.out; have := HG.out; omega)); replace Hg9 := Aside0.mk (Hg9.out.but hb_ (by have := HXg7.out; have := HXg8.out; have := HXg9.out; have := HXg10.out; have := HXg11.out; have := HXg12.out; have := HXg7g8.out; have := HXg9g10.out; have := HXg11g12.out; have := HG.out; omega)); replace Hg10 := Aside0.mk (Hg10.out.but hb_ (by have := HXg7.out; have := HXg8.out; have := HXg9.out; have := HXg10.out; have := HXg11.out; have := HXg12.out; have := HXg7g8.out; have := HXg9g10.out; have := HXg11g12.out; have := HG.out; omega)); replace Hg11 := Aside0.mk (Hg11.out.but hb_ (by have := HXg7.out; have := HXg8.out; have := HXg9.out; have := HXg10.out; have := HXg11.out; have := HXg12.out; have := HXg7g8.out; have := HXg9g10.out; have := HXg11g12.out; have := HG.out; omega)); replace Hg12 := Aside0.mk (Hg12.out.but hb_ (by have := HXg7.out; have := HXg8.out; have := HXg9.out; have := HXg10.out; have := HXg11.out; have := HXg12.out; have := HXg7g8.out; have := HXg9g10.out; have := HXg11g12.out; have := HG.out; omega)); replace HF := Aside0.mk (HF.out.but hb_ (by have := HXg7.out; have := HXg8.out; have := HXg9.out; have := HXg10.out; have := HXg11.out; have := HXg12.out; have := HXg7g8.out; have := HXg9g10.out; have := HXg11g12.out; have := HG.out; omega)); replace HR := Aside0.mk hn_; replace HB := Aside0.mk (bl_but HB.out hb_ HB.out.size (by have := HXg7.out; have := HXg8.out; have := HXg9.out; have := HXg10.out; have := HXg11.out; have := HXg12.out; have := HXg7g8.out; have := HXg9g10.out; have := HXg11g12.out; have := HG.out; omega)); replace HS := Aside0.mk (Nat.le_trans HS.out hb_.size); clear hn_ hb_))
   exact bodyPost_ret (v := thV ((twJ x1 y1 z1).1) ((twJ x1 y1 z1).2.1) ((twJ x1 y1 z1).2.2)) (results_th rfl rfl HR.out) rfl ⟨by rw [QR.out]; rfl, HB.out⟩
  ·skip
   have q_t9 := fun w => eql_is0 BN_t9.out h_t9 w
   have q_t10 := fun w => eql_not0 BN_t10.out h_t10 w
   have QR := Aside0.mk (R2.out h_t9 h_t10)
   clear h_t9 h_t10 R1 R2 R3
   go_upto_region 11 with (first | ((with_reducible refine gate_dst (N := 79) rfl ?_); refine ld_num (Hg10.out.range) rfl _ rfl rfl ?_) | ((with_reducible refine gate_dst (N := 83) rfl ?_); refine ld_numG (Hg12.out.range) (by rfl) _ rfl rfl ?_))
   go_upto_region 12 with (first | ((with_reducible refine gate_dst (N := 91) rfl ?_); refine ld_num (Hg10.out.range) rfl _ rfl rfl ?_))
   go_wp2_with (first | ((with_reducible refine gate_st (y := .tmp 94) rfl ?_); (try simp only [aS]); refine st_th (x := 0) (y := 0) (z := 0) HR.out rfl _ _ rfl rfl rfl ?_; intro u31 hn_ hb_; replace HC := Aside0.mk (HC.out.but hb_ (by have := HXg7.out; have := HXg8.out; have := HXg9.out; have := HXg10.out; have := HXg11.out; have := HXg12.out; have := HXg7g8.out; have := HXg9g10.out; have := HXg11g12.out; have := HG.out; omega)); replace HP1 := Aside0.mk (HP1.out.but hb_ (by have := HXg7.out; have := HXg8.out; have := HXg9.out; have := HXg10.out; have := HXg11.out; have := HXg12.out; have := HXg7g8.out; have := HXg9g10.out; have := HXg11g12.out; have := HG.out; omega)); replace HP2 := Aside0.mk (HP2.out.but hb_ (by have := HXg7.out; have := HXg8.out; have := HXg9.out; have := HXg10.out; have := HXg11.out; have := HXg12.out; have := HXg7g8.out; have := HXg9g10.out; have := HXg11g12.out; have := HG.out; omega)); replace Hg7 := Aside0.mk (Hg7.out.but hb_ (by have := HXg7.out; have := HXg8.out; have := HXg9.out; have := HXg10.out; have := HXg11.out; have := HXg12.out; have := HXg7g8.out; have := HXg9g10.out; have := HXg11g12.out; have := HG.out; omega)); replace Hg8 := Aside0.mk (Hg8.out.but hb_ (by have := HXg7.out; have := HXg8.out; have := HXg9.out; have := HXg10.out; have := HXg11.out; have := HXg12.out; have := HXg7g8.out; have := HXg9g10.out; have := HXg11g12.out; have := HG.out; omega)); replace Hg9 := Aside0.mk (Hg9.out.but hb_ (by have := HXg7.out; have := HXg8.out; have := HXg9.out; have := HXg10.out; have := HXg11.out; have := HXg12.out; have := HXg7g8.out; have := HXg9g10.out; have := HXg11g12.out; have := HG.out; omega)); replace Hg10 := Aside0.mk (Hg10.out.but hb_ (by have := HXg7.out; have := HXg8.out; have := HXg9.out; have := HXg10.out; have := HXg11.out; have := HXg12.out; have := HXg7g8.out; have := HXg9g10.out; have := HXg11g12.out; have := HG.out; omega)); replace Hg11 := Aside0.mk (Hg11.out.but hb_ (by have := HXg7.out; have := HXg8.out; have := HXg9.out; have := HXg10.out; have := HXg11.out; have := HXg12.out; have := HXg7g8.out; have := HXg9g10.out; have := HXg11g12.out; have := HG.out; omega)); replace Hg12 := Aside0.mk (Hg12.out.but hb_ (by have := HXg7.out; have := HXg8.out; have := HXg9.out; have := HXg10.out; have := HXg11.out; have := HXg12.out; have := HXg7g8.out; have := HXg9g10.out; have := HXg11g12.out; have := HG.out; omega)); replace HF := Aside0.mk (HF.out.but hb_ (by have := HXg7.out; have := HXg8.out; have := HXg9.out; have := HXg10.out; have := HXg11.out; have := HXg12.out; have := HXg7g8.out; have := HXg9g10.out; have := HXg11g12.out; have := HG.out; omega)); replace HR := Aside0.mk hn_; replace HB := Aside0.mk (bl_but HB.out hb_ HB.out.size (by have := HXg7.out; have := HXg8.out; have := HXg9.out; have := HXg10.out; have := HXg11.out; have := HXg12.out; have := HXg7g8.out; have := HXg9g10.out; have := HXg11g12.out; have := HG.out; omega)); replace HS := Aside0.mk (Nat.le_trans HS.out hb_.size); clear hn_ hb_))
   exact bodyPost_ret (v := thV 0 0 0) (results_th rfl rfl HR.out) rfl ⟨by rw [QR.out]; rfl, HB.out⟩
 ·skip
  have q_t9 := fun w => eql_not0 BN_t9.out h_t9 w
  have QR := Aside0.mk (R3.out h_t9)
  clear h_t9 R1 R2 R3
  go_upto_region 11 with (first | ((with_reducible refine gate_dst (N := 79) rfl ?_); refine ld_num (Hg10.out.range) rfl _ rfl rfl ?_) | ((with_reducible refine gate_dst (N := 83) rfl ?_); refine ld_numG (Hg12.out.range) (by rfl) _ rfl rfl ?_))
  go_upto_region 13 with (first | ((with_reducible refine gate_dst (N := 91) rfl ?_); refine ld_num (Hg10.out.range) rfl _ rfl rfl ?_))
  go_upto_region 14 with (first | ((with_reducible refine gate_dst (N := 95) rfl ?_); refine ld_cv HC.out rfl _ rfl rfl ?_) | ((with_reducible refine gate_dst (N := 96) rfl ?_); refine ld_num (Hg10.out.range) rfl _ rfl rfl ?_) | ((with_reducible refine gate_dst (N := 97) rfl ?_); refine goesL_ (some 97) rfl rfl Try.func55 (by kernel_rfl) rfl #[cvV gf, numV t9] rfl (by (try simp only [List.map_toArray, List.map_cons, List.map_nil]); first | done | rfl) ?_; (with_reducible refine (K14.out _ (HF.out)).mono ?_); rintro e u32 ⟨rfl, hb_⟩; refine ⟨_, rfl, ?_⟩; replace HC := Aside0.mk (HC.out.on hb_); replace HP1 := Aside0.mk (HP1.out.on hb_); replace HP2 := Aside0.mk (HP2.out.on hb_); replace HR := Aside0.mk (HR.out.on hb_); replace Hg7 := Aside0.mk (Hg7.out.on hb_); replace Hg8 := Aside0.mk (Hg8.out.on hb_); replace Hg9 := Aside0.mk (Hg9.out.on hb_); replace Hg10 := Aside0.mk (Hg10.out.on hb_); replace Hg11 := Aside0.mk (Hg11.out.on hb_); replace Hg12 := Aside0.mk (Hg12.out.on hb_); replace HF := Aside0.mk (HF.out.on hb_); replace HB := Aside0.mk (bl_on HB.out hb_ HB.out.size); replace HS := Aside0.mk (Nat.le_trans HS.out hb_.size); clear hb_) | ((with_reducible refine gate_dst (N := 13) rfl ?_); refine al_num rfl _ rfl rfl ?_; intro g13 u33 eg_ hn_ hb_; have HXg13 : Aside0 (w.heap.size + 1 + 1 + 1 + 1 ≤ g13 ∧ g7 < g13 ∧ g8 < g13 ∧ g9 < g13 ∧ g10 < g13 ∧ g11 < g13 ∧ g12 < g13) := Aside0.mk (by rw [eg_]; exact ⟨HS.out, Hg7.out.size, Hg8.out.size, Hg9.out.size, Hg10.out.size, Hg11.out.size, Hg12.out.size⟩); replace HC := Aside0.mk (HC.out.on hb_); replace HP1 := Aside0.mk (HP1.out.on hb_); replace HP2 := Aside0.mk (HP2.out.on hb_); replace HR := Aside0.mk (HR.out.on hb_); replace Hg7 := Aside0.mk (Hg7.out.on hb_); replace Hg8 := Aside0.mk (Hg8.out.on hb_); replace Hg9 := Aside0.mk (Hg9.out.on hb_); replace Hg10 := Aside0.mk (Hg10.out.on hb_); replace Hg11 := Aside0.mk (Hg11.out.on hb_); replace Hg12 := Aside0.mk (Hg12.out.on hb_); replace HF := Aside0.mk (HF.out.on hb_); replace HB := Aside0.mk (bl_on HB.out hb_ HB.out.size); replace HS := Aside0.mk (Nat.le_trans HS.out hb_.size); have Hg13 := Aside0.mk hn_; clear hn_ hb_ eg_) | ((with_reducible refine gate_st (y := .tmp 97) rfl ?_); (try simp only [aS]); refine st_num Hg13.out rfl _ _ rfl rfl rfl ?_; intro u34 hn_ hb_; replace HC := Aside0.mk (HC.out.but hb_ (by have := HXg7.out; have := HXg8.out; have := HXg9.out; have := HXg10.out; have := HXg11.out; have := HXg12.out; have := HXg13.out; have := HXg7g8.out; have := HXg9g10.out; have := HXg11g12.out; have := HG.out; omega)); replace HP1 := Aside0.mk (HP1.out.but hb_ (by have := HXg7.out; have := HXg8.out; have := HXg9.out; have := HXg10.out; have := HXg11.out; have := HXg12.out; have := HXg13.out; have := HXg7g8.out; have := HXg9g10.out; have := HXg11g12.out; have := HG.out; omega)); replace HP2 := Aside0.mk (HP2.out.but hb_ (by have := HXg7.out; have := HXg8.out; have := HXg9.out; have := HXg10.out; have := HXg11.out; have := HXg12.out; have := HXg13.out; have := HXg7g8.out; have := HXg9g10.out; have := HXg11g12.out; have := HG.out; omega)); replace HR := Aside0.mk (HR.out.but hb_ (by have := HXg7.out; have := HXg8.out; have := HXg9.out; have := HXg10.out; have := HXg11.out; have := HXg12.out; have := HXg13.out; have := HXg7g8.out; have := HXg9g10.out; have := HXg11g12.out; have := HG.out; omega)); replace Hg7 := Aside0.mk (Hg7.out.but hb_ (by have := HXg7.out; have := HXg8.out; have := HXg9.out; have := HXg10.out; have := HXg11.out; have := HXg12.out; have := HXg13.out; have := HXg7g8.out; have := HXg9g10.out; have := HXg11g12.out; have := HG.out; omega)); replace Hg8 := Aside0.mk (Hg8.out.but hb_ (by have := HXg7.out; have := HXg8.out; have := HXg9.out; have := HXg10.out; have := HXg11.out; have := HXg12.out; have := HXg13.out; have := HXg7g8.out; have := HXg9g10.out; have := HXg11g12.out; have := HG.out; omega)); replace Hg9 := Aside0.mk (Hg9.out.but hb_ (by have := HXg7.out; have := HXg8.out; have := HXg9.out; have := HXg10.out; have := HXg11.out; have := HXg12.out; have := HXg13.out; have := HXg7g8.out; have := HXg9g10.out; have := HXg11g12.out; have := HG.out; omega)); replace Hg10 := Aside0.mk (Hg10.out.but hb_ (by have := HXg7.out; have := HXg8.out; have := HXg9.out; have := HXg10.out; have := HXg11.out; have := HXg12.out; have := HXg13.out; have := HXg7g8.out; have := HXg9g10.out; have := HXg11g12.out; have := HG.out; omega)); replace Hg11 := Aside0.mk (Hg11.out.but hb_ (by have := HXg7.out; have := HXg8.out; have := HXg9.out; have := HXg10.out; have := HXg11.out; have := HXg12.out; have := HXg13.out; have := HXg7g8.out; have := HXg9g10.out; have := HXg11g12.out; have := HG.out; omega)); replace Hg12 := Aside0.mk (Hg12.out.but hb_ (by have := HXg7.out; have := HXg8.out; have := HXg9.out; have := HXg10.out; have := HXg11.out; have := HXg12.out; have := HXg13.out; have := HXg7g8.out; have := HXg9g10.out; have := HXg11g12.out; have := HG.out; omega)); replace HF := Aside0.mk (HF.out.but hb_ (by have := HXg7.out; have := HXg8.out; have := HXg9.out; have := HXg10.out; have := HXg11.out; have := HXg12.out; have := HXg13.out; have := HXg7g8.out; have := HXg9g10.out; have := HXg11g12.out; have := HG.out; omega)); replace Hg13 := Aside0.mk hn_; replace HB := Aside0.mk (bl_but HB.out hb_ HB.out.size (by have := HXg7.out; have := HXg8.out; have := HXg9.out; have := HXg10.out; have := HXg11.out; have := HXg12.out; have := HXg13.out; have := HXg7g8.out; have := HXg9g10.out; have := HXg11g12.out; have := HG.out; omega)); replace HS := Aside0.mk (Nat.le_trans HS.out hb_.size); clear hn_ hb_))
  refine start_ (n := 14) (S := fun w' => Below u34.heap.size u34 w' ∧ w'.cell? ⟨w.heap.size, 3, none⟩ = some (mthV 53 gf)) (ds := [13]) (bs 14 0) (by kernel_rfl) rfl rfl ⟨(Below.refl _ _).drew, HC.out.c3⟩ (fun hHeld => ?_)
  refine pu_ 0 98 (bs 14 1) ?_ ?_ ?_ ?_ ?_
  rotate_left
  ·intro w'
   go_simp
   with_reducible rfl
  rotate_left
  ·simp only [aS, i64_w, i32_w]
   rfl
  refine pu_ 5 103 (bs 14 33) ?_ ?_ ?_ ?_ ?_
  rotate_left
  ·intro w'
   go_simp
   with_reducible rfl
  rotate_left
  ·simp only [aS, i64_w, i32_w]
   rfl
  refine tk_ 1 99 (bs 14 35) ?_ ?_ hHeld ?_ ?_ ?_
  rotate_left
  ·rintro w' ⟨s0, s1⟩
   go_simp
   with_reducible rfl
  rotate_left
  ·simp only [aS, i64_w, i32_w]
   rfl
  refine take_ (i := 2) (N := some 100) (a' := ?_) (bs 14 39) rfl rfl (by kernel_rfl) (fun _ _ _ h => h) (yields_num (g := g13) (o := 0) (n := t11) (by rfl) (.tmp 13) rfl rfl (fun w' hS => (Hg13.out.on hS.1).range)) hHeld ?_ ?_
  rotate_left
  ·simp only [aS, i64_w, i32_w]
   rfl
  refine take_ (i := 3) (N := some 101) (a' := ?_) (bs 14 47) rfl rfl (by kernel_rfl) (fun _ _ _ h => h) (yields_num (g := g10) (o := 0) (n := t9) (by rfl) (.tmp 10) rfl rfl (fun w' hS => (Hg10.out.on hS.1).range)) hHeld ?_ ?_
  rotate_left
  ·simp only [aS, i64_w, i32_w]
   rfl
  refine tk_ 6 104 (bs 14 111) ?_ ?_ hHeld ?_ ?_ ?_
  rotate_left
  ·rintro w' ⟨s0, s1⟩
   go_simp
   with_reducible rfl
  rotate_left
  ·simp only [aS, i64_w, i32_w]
   rfl
  refine take_ (i := 7) (N := some 105) (a' := ?_) (bs 14 239) rfl rfl (by kernel_rfl) (fun _ _ _ h => h) (yields_num (g := g9) (o := 0) (n := t3) (by rfl) (.tmp 9) rfl rfl (fun w' hS => (Hg9.out.on hS.1).range)) hHeld ?_ ?_
  rotate_left
  ·simp only [aS, i64_w, i32_w]
   rfl
  refine take_ (i := 8) (N := some 106) (a' := ?_) (bs 14 495) rfl rfl (by kernel_rfl) (fun _ _ _ h => h) (yields_num (g := g13) (o := 0) (n := t11) (by rfl) (.tmp 13) rfl rfl (fun w' hS => (Hg13.out.on hS.1).range)) hHeld ?_ ?_
  rotate_left
  ·simp only [aS, i64_w, i32_w]
   rfl
  refine join_ (σ := Nat × Nat) 2 (bs 14 4095) (fun s => [(14, .pointer (some ⟨s.1, 0, none⟩)), (15, .pointer (some ⟨s.2, 0, none⟩)), (102, numV t12), (107, numV t13)]) (fun s w' => Below u34.heap.size u34 w' ∧ NAt w' s.1 0 ∧ u34.heap.size ≤ s.1 ∧ NAt w' s.2 0 ∧ u34.heap.size ≤ s.2 ∧ s.1 ≠ s.2) ?_ ?_
  rotate_left
  ·intro hCont
   refine three_ (i := 4) (j := 10) (k := 11) (Ni := some 102) (Nj := some 14) (Nk := some 15) (bs 14 511) (bs 14 1519) (bs 14 2543) rfl rfl rfl rfl rfl rfl (by kernel_rfl) (by decide) (by decide) (by decide) (fun K hK => ?_) (fun K hK => ?_) (fun K hK => ?_)
   ·skip
    refine gF_ Try.func53 gf (numV t11) (numV t9) rfl ?_
    with_reducible refine (K15.out _ (HF.out.on hHeld.1)).mono ?_
    rintro e u35 ⟨rfl, hb_u35⟩
    refine ⟨_, rfl, ?_⟩
    have hq_u35 := bl_on hHeld.1 hb_u35 hHeld.1.size
    refine hK.out _ _ ⟨hq_u35, (HC.out.on (hq_u35)).c3⟩ (fun hHeld => ?_)
    clear hK K
    refine nm_ (some 102) ?_
    refine three_ (i := 9) (j := 10) (k := 11) (Ni := some 107) (Nj := some 14) (Nk := some 15) (bs 14 1023) (bs 14 1535) (bs 14 2559) rfl rfl rfl rfl rfl rfl (by kernel_rfl) (by decide) (by decide) (by decide) (fun K hK => ?_) (fun K hK => ?_) (fun K hK => ?_)
    ·skip
     refine gF_ Try.func53 gf (numV t3) (numV t11) rfl ?_
     with_reducible refine (K16.out _ (HF.out.on hHeld.1)).mono ?_
     rintro e u36 ⟨rfl, hb_u36⟩
     refine ⟨_, rfl, ?_⟩
     have hq_u36 := bl_on hHeld.1 hb_u36 hHeld.1.size
     refine hK.out _ _ ⟨hq_u36, (HC.out.on (hq_u36)).c3⟩ (fun hHeld => ?_)
     clear hK K
     refine nm_ (some 107) ?_
     refine tw_ 10 11 (some 14) (some 15) (bs 14 2047) (bs 14 3071) rfl rfl (fun K hK => ?_) (fun K hK => ?_)
     ·skip
      refine value_ (w1 := ?_) (v := ?_) (by rfl) rfl ?_ ?_
      rotate_left 2
      ·go_simp
       constructor
       ·rfl
       ·rfl
      have hzg14 : NAt (World.alloc u36 (.cells (nw 0).toArray 24)) (u36.heap.size) 0 := by have h_ := Row.new u36 24 (nw 0); first | exact h_ | (simp only [alloc_sz] at h_; exact h_) | omega
      have hsg14 : u34.heap.size ≤ u36.heap.size := by have h_ := hHeld.1.size; first | exact h_ | (simp only [alloc_sz] at h_; exact h_) | omega
      refine hK.out _ _ ⟨below_alloc hHeld.1 _, (HC.out.on (below_alloc hHeld.1 _)).c3⟩ (fun hHeld => ?_)
      clear hK K
      refine nm_ (some 14) ?_
      refine on1_ 11 (some 15) (bs 14 4095) rfl fun K hK => ?_
      refine value_ (w1 := ?_) (v := ?_) (by rfl) rfl ?_ ?_
      rotate_left 2
      ·go_simp
       constructor
       ·rfl
       ·rfl
      have hzg15 : NAt (World.alloc (World.alloc u36 (.cells (nw 0).toArray 24)) (.cells (nw 0).toArray 24)) (u36.heap.size + 1) 0 := by have h_ := Row.new (World.alloc u36 (.cells (nw 0).toArray 24)) 24 (nw 0); first | exact h_ | (simp only [alloc_sz] at h_; exact h_) | omega
      have hsg15 : u34.heap.size ≤ u36.heap.size + 1 := by have h_ := hHeld.1.size; first | exact h_ | (simp only [alloc_sz] at h_; exact h_) | omega
      have hng14g15 : u36.heap.size < u36.heap.size + 1 := by have h_ := hzg14.size; first | exact h_ | (simp only [alloc_sz] at h_; exact h_) | omega
      replace hzg14 := hzg14.on (below_alloc (Below.refl _ (World.alloc u36 (.cells (nw 0).toArray 24))) (.cells (nw 0).toArray 24))
      refine hK.out _ _ ⟨below_alloc hHeld.1 _, (HC.out.on (below_alloc hHeld.1 _)).c3⟩ (fun hHeld => ?_)
      clear hK K
      refine nm_ (some 15) ?_
      exact norm_ (by simp only [putAll, aS]) (hCont (u36.heap.size, u36.heap.size + 1) _ ⟨hHeld.1, hzg14, hsg14, hzg15, hsg15, Nat.ne_of_lt hng14g15⟩)
     ·skip
      refine value_ (w1 := ?_) (v := ?_) (by rfl) rfl ?_ ?_
      rotate_left 2
      ·go_simp
       constructor
       ·rfl
       ·rfl
      have hzg15 : NAt (World.alloc u36 (.cells (nw 0).toArray 24)) (u36.heap.size) 0 := by have h_ := Row.new u36 24 (nw 0); first | exact h_ | (simp only [alloc_sz] at h_; exact h_) | omega
      have hsg15 : u34.heap.size ≤ u36.heap.size := by have h_ := hHeld.1.size; first | exact h_ | (simp only [alloc_sz] at h_; exact h_) | omega
      refine hK.out _ _ ⟨below_alloc hHeld.1 _, (HC.out.on (below_alloc hHeld.1 _)).c3⟩ (fun hHeld => ?_)
      clear hK K
      refine nm_ (some 15) ?_
      refine on1_ 10 (some 14) (bs 14 4095) rfl fun K hK => ?_
      refine value_ (w1 := ?_) (v := ?_) (by rfl) rfl ?_ ?_
      rotate_left 2
      ·go_simp
       constructor
       ·rfl
       ·rfl
      have hzg14 : NAt (World.alloc (World.alloc u36 (.cells (nw 0).toArray 24)) (.cells (nw 0).toArray 24)) (u36.heap.size + 1) 0 := by have h_ := Row.new (World.alloc u36 (.cells (nw 0).toArray 24)) 24 (nw 0); first | exact h_ | (simp only [alloc_sz] at h_; exact h_) | omega
      have hsg14 : u34.heap.size ≤ u36.heap.size + 1 := by have h_ := hHeld.1.size; first | exact h_ | (simp only [alloc_sz] at h_; exact h_) | omega
      have hng15g14 : u36.heap.size < u36.heap.size + 1 := by have h_ := hzg15.size; first | exact h_ | (simp only [alloc_sz] at h_; exact h_) | omega
      replace hzg15 := hzg15.on (below_alloc (Below.refl _ (World.alloc u36 (.cells (nw 0).toArray 24))) (.cells (nw 0).toArray 24))
      refine hK.out _ _ ⟨below_alloc hHeld.1 _, (HC.out.on (below_alloc hHeld.1 _)).c3⟩ (fun hHeld => ?_)
      clear hK K
      refine nm_ (some 14) ?_
      exact norm_ (by simp only [putAll, aS]) (hCont (u36.heap.size + 1, u36.heap.size) _ ⟨hHeld.1, hzg14, hsg14, hzg15, hsg15, Nat.ne_of_gt hng15g14⟩)
    ·skip
     refine value_ (w1 := ?_) (v := ?_) (by rfl) rfl ?_ ?_
     rotate_left 2
     ·go_simp
      constructor
      ·rfl
      ·rfl
     have hzg14 : NAt (World.alloc u35 (.cells (nw 0).toArray 24)) (u35.heap.size) 0 := by have h_ := Row.new u35 24 (nw 0); first | exact h_ | (simp only [alloc_sz] at h_; exact h_) | omega
     have hsg14 : u34.heap.size ≤ u35.heap.size := by have h_ := hHeld.1.size; first | exact h_ | (simp only [alloc_sz] at h_; exact h_) | omega
     refine hK.out _ _ ⟨below_alloc hHeld.1 _, (HC.out.on (below_alloc hHeld.1 _)).c3⟩ (fun hHeld => ?_)
     clear hK K
     refine nm_ (some 14) ?_
     refine tw_ 9 11 (some 107) (some 15) (bs 14 2047) (bs 14 3583) rfl rfl (fun K hK => ?_) (fun K hK => ?_)
     ·skip
      refine gF_ Try.func53 gf (numV t3) (numV t11) rfl ?_
      with_reducible refine (K16.out _ (HF.out.on hHeld.1)).mono ?_
      rintro e u36 ⟨rfl, hb_u36⟩
      refine ⟨_, rfl, ?_⟩
      have hq_u36 := bl_on hHeld.1 hb_u36 hHeld.1.size
      replace hzg14 := hzg14.on hb_u36
      refine hK.out _ _ ⟨hq_u36, (HC.out.on (hq_u36)).c3⟩ (fun hHeld => ?_)
      clear hK K
      refine nm_ (some 107) ?_
      refine on1_ 11 (some 15) (bs 14 4095) rfl fun K hK => ?_
      refine value_ (w1 := ?_) (v := ?_) (by rfl) rfl ?_ ?_
      rotate_left 2
      ·go_simp
       constructor
       ·rfl
       ·rfl
      have hzg15 : NAt (World.alloc u36 (.cells (nw 0).toArray 24)) (u36.heap.size) 0 := by have h_ := Row.new u36 24 (nw 0); first | exact h_ | (simp only [alloc_sz] at h_; exact h_) | omega
      have hsg15 : u34.heap.size ≤ u36.heap.size := by have h_ := hHeld.1.size; first | exact h_ | (simp only [alloc_sz] at h_; exact h_) | omega
      have hng14g15 : u35.heap.size < u36.heap.size := by have h_ := hzg14.size; first | exact h_ | (simp only [alloc_sz] at h_; exact h_) | omega
      replace hzg14 := hzg14.on (below_alloc (Below.refl _ u36) (.cells (nw 0).toArray 24))
      refine hK.out _ _ ⟨below_alloc hHeld.1 _, (HC.out.on (below_alloc hHeld.1 _)).c3⟩ (fun hHeld => ?_)
      clear hK K
      refine nm_ (some 15) ?_
      exact norm_ (by simp only [putAll, aS]) (hCont (u35.heap.size, u36.heap.size) _ ⟨hHeld.1, hzg14, hsg14, hzg15, hsg15, Nat.ne_of_lt hng14g15⟩)
     ·skip
      refine value_ (w1 := ?_) (v := ?_) (by rfl) rfl ?_ ?_
      rotate_left 2
      ·go_simp
       constructor
       ·rfl
       ·rfl
      have hzg15 : NAt (World.alloc (World.alloc u35 (.cells (nw 0).toArray 24)) (.cells (nw 0).toArray 24)) (u35.heap.size + 1) 0 := by have h_ := Row.new (World.alloc u35 (.cells (nw 0).toArray 24)) 24 (nw 0); first | exact h_ | (simp only [alloc_sz] at h_; exact h_) | omega
      have hsg15 : u34.heap.size ≤ u35.heap.size + 1 := by have h_ := hHeld.1.size; first | exact h_ | (simp only [alloc_sz] at h_; exact h_) | omega
      have hng14g15 : u35.heap.size < u35.heap.size + 1 := by have h_ := hzg14.size; first | exact h_ | (simp only [alloc_sz] at h_; exact h_) | omega
      replace hzg14 := hzg14.on (below_alloc (Below.refl _ (World.alloc u35 (.cells (nw 0).toArray 24))) (.cells (nw 0).toArray 24))
      refine hK.out _ _ ⟨below_alloc hHeld.1 _, (HC.out.on (below_alloc hHeld.1 _)).c3⟩ (fun hHeld => ?_)
      clear hK K
      refine nm_ (some 15) ?_
      refine on1_ 9 (some 107) (bs 14 4095) rfl fun K hK => ?_
      refine gF_ Try.func53 gf (numV t3) (numV t11) rfl ?_
      with_reducible refine (K16.out _ (HF.out.on hHeld.1)).mono ?_
      rintro e u36 ⟨rfl, hb_u36⟩
      refine ⟨_, rfl, ?_⟩
      have hq_u36 := bl_on hHeld.1 hb_u36 hHeld.1.size
      replace hzg14 := hzg14.on hb_u36
      replace hzg15 := hzg15.on hb_u36
      refine hK.out _ _ ⟨hq_u36, (HC.out.on (hq_u36)).c3⟩ (fun hHeld => ?_)
      clear hK K
      refine nm_ (some 107) ?_
      exact norm_ (by simp only [putAll, aS]) (hCont (u35.heap.size, u35.heap.size + 1) _ ⟨hHeld.1, hzg14, hsg14, hzg15, hsg15, Nat.ne_of_lt hng14g15⟩)
    ·skip
     refine value_ (w1 := ?_) (v := ?_) (by rfl) rfl ?_ ?_
     rotate_left 2
     ·go_simp
      constructor
      ·rfl
      ·rfl
     have hzg15 : NAt (World.alloc u35 (.cells (nw 0).toArray 24)) (u35.heap.size) 0 := by have h_ := Row.new u35 24 (nw 0); first | exact h_ | (simp only [alloc_sz] at h_; exact h_) | omega
     have hsg15 : u34.heap.size ≤ u35.heap.size := by have h_ := hHeld.1.size; first | exact h_ | (simp only [alloc_sz] at h_; exact h_) | omega
     refine hK.out _ _ ⟨below_alloc hHeld.1 _, (HC.out.on (below_alloc hHeld.1 _)).c3⟩ (fun hHeld => ?_)
     clear hK K
     refine nm_ (some 15) ?_
     refine tw_ 9 10 (some 107) (some 14) (bs 14 3071) (bs 14 3583) rfl rfl (fun K hK => ?_) (fun K hK => ?_)
     ·skip
      refine gF_ Try.func53 gf (numV t3) (numV t11) rfl ?_
      with_reducible refine (K16.out _ (HF.out.on hHeld.1)).mono ?_
      rintro e u36 ⟨rfl, hb_u36⟩
      refine ⟨_, rfl, ?_⟩
      have hq_u36 := bl_on hHeld.1 hb_u36 hHeld.1.size
      replace hzg15 := hzg15.on hb_u36
      refine hK.out _ _ ⟨hq_u36, (HC.out.on (hq_u36)).c3⟩ (fun hHeld => ?_)
      clear hK K
      refine nm_ (some 107) ?_
      refine on1_ 10 (some 14) (bs 14 4095) rfl fun K hK => ?_
      refine value_ (w1 := ?_) (v := ?_) (by rfl) rfl ?_ ?_
      rotate_left 2
      ·go_simp
       constructor
       ·rfl
       ·rfl
      have hzg14 : NAt (World.alloc u36 (.cells (nw 0).toArray 24)) (u36.heap.size) 0 := by have h_ := Row.new u36 24 (nw 0); first | exact h_ | (simp only [alloc_sz] at h_; exact h_) | omega
      have hsg14 : u34.heap.size ≤ u36.heap.size := by have h_ := hHeld.1.size; first | exact h_ | (simp only [alloc_sz] at h_; exact h_) | omega
      have hng15g14 : u35.heap.size < u36.heap.size := by have h_ := hzg15.size; first | exact h_ | (simp only [alloc_sz] at h_; exact h_) | omega
      replace hzg15 := hzg15.on (below_alloc (Below.refl _ u36) (.cells (nw 0).toArray 24))
      refine hK.out _ _ ⟨below_alloc hHeld.1 _, (HC.out.on (below_alloc hHeld.1 _)).c3⟩ (fun hHeld => ?_)
      clear hK K
      refine nm_ (some 14) ?_
      exact norm_ (by simp only [putAll, aS]) (hCont (u36.heap.size, u35.heap.size) _ ⟨hHeld.1, hzg14, hsg14, hzg15, hsg15, Nat.ne_of_gt hng15g14⟩)
     ·skip
      refine value_ (w1 := ?_) (v := ?_) (by rfl) rfl ?_ ?_
      rotate_left 2
      ·go_simp
       constructor
       ·rfl
       ·rfl
      have hzg14 : NAt (World.alloc (World.alloc u35 (.cells (nw 0).toArray 24)) (.cells (nw 0).toArray 24)) (u35.heap.size + 1) 0 := by have h_ := Row.new (World.alloc u35 (.cells (nw 0).toArray 24)) 24 (nw 0); first | exact h_ | (simp only [alloc_sz] at h_; exact h_) | omega
      have hsg14 : u34.heap.size ≤ u35.heap.size + 1 := by have h_ := hHeld.1.size; first | exact h_ | (simp only [alloc_sz] at h_; exact h_) | omega
      have hng15g14 : u35.heap.size < u35.heap.size + 1 := by have h_ := hzg15.size; first | exact h_ | (simp only [alloc_sz] at h_; exact h_) | omega
      replace hzg15 := hzg15.on (below_alloc (Below.refl _ (World.alloc u35 (.cells (nw 0).toArray 24))) (.cells (nw 0).toArray 24))
      refine hK.out _ _ ⟨below_alloc hHeld.1 _, (HC.out.on (below_alloc hHeld.1 _)).c3⟩ (fun hHeld => ?_)
      clear hK K
      refine nm_ (some 14) ?_
      refine on1_ 9 (some 107) (bs 14 4095) rfl fun K hK => ?_
      refine gF_ Try.func53 gf (numV t3) (numV t11) rfl ?_
      with_reducible refine (K16.out _ (HF.out.on hHeld.1)).mono ?_
      rintro e u36 ⟨rfl, hb_u36⟩
      refine ⟨_, rfl, ?_⟩
      have hq_u36 := bl_on hHeld.1 hb_u36 hHeld.1.size
      replace hzg15 := hzg15.on hb_u36
      replace hzg14 := hzg14.on hb_u36
      refine hK.out _ _ ⟨hq_u36, (HC.out.on (hq_u36)).c3⟩ (fun hHeld => ?_)
      clear hK K
      refine nm_ (some 107) ?_
      exact norm_ (by simp only [putAll, aS]) (hCont (u35.heap.size + 1, u35.heap.size) _ ⟨hHeld.1, hzg14, hsg14, hzg15, hsg15, Nat.ne_of_gt hng15g14⟩)
   ·skip
    refine value_ (w1 := ?_) (v := ?_) (by rfl) rfl ?_ ?_
    rotate_left 2
    ·go_simp
     constructor
     ·rfl
     ·rfl
    have hzg14 : NAt (World.alloc (World.drew u34) (.cells (nw 0).toArray 24)) (u34.heap.size) 0 := by have h_ := Row.new (World.drew u34) 24 (nw 0); first | exact h_ | (simp only [alloc_sz] at h_; exact h_) | omega
    have hsg14 : u34.heap.size ≤ u34.heap.size := by have h_ := hHeld.1.size; first | exact h_ | (simp only [alloc_sz] at h_; exact h_) | omega
    refine hK.out _ _ ⟨below_alloc hHeld.1 _, (HC.out.on (below_alloc hHeld.1 _)).c3⟩ (fun hHeld => ?_)
    clear hK K
    refine nm_ (some 14) ?_
    refine tw_ 4 11 (some 102) (some 15) (bs 14 1535) (bs 14 3567) rfl rfl (fun K hK => ?_) (fun K hK => ?_)
    ·skip
     refine gF_ Try.func53 gf (numV t11) (numV t9) rfl ?_
     with_reducible refine (K15.out _ (HF.out.on hHeld.1)).mono ?_
     rintro e u35 ⟨rfl, hb_u35⟩
     refine ⟨_, rfl, ?_⟩
     have hq_u35 := bl_on hHeld.1 hb_u35 hHeld.1.size
     replace hzg14 := hzg14.on hb_u35
     refine hK.out _ _ ⟨hq_u35, (HC.out.on (hq_u35)).c3⟩ (fun hHeld => ?_)
     clear hK K
     refine nm_ (some 102) ?_
     refine tw_ 9 11 (some 107) (some 15) (bs 14 2047) (bs 14 3583) rfl rfl (fun K hK => ?_) (fun K hK => ?_)
     ·skip
      refine gF_ Try.func53 gf (numV t3) (numV t11) rfl ?_
      with_reducible refine (K16.out _ (HF.out.on hHeld.1)).mono ?_
      rintro e u36 ⟨rfl, hb_u36⟩
      refine ⟨_, rfl, ?_⟩
      have hq_u36 := bl_on hHeld.1 hb_u36 hHeld.1.size
      replace hzg14 := hzg14.on hb_u36
      refine hK.out _ _ ⟨hq_u36, (HC.out.on (hq_u36)).c3⟩ (fun hHeld => ?_)
      clear hK K
      refine nm_ (some 107) ?_
      refine on1_ 11 (some 15) (bs 14 4095) rfl fun K hK => ?_
      refine value_ (w1 := ?_) (v := ?_) (by rfl) rfl ?_ ?_
      rotate_left 2
      ·go_simp
       constructor
       ·rfl
       ·rfl
      have hzg15 : NAt (World.alloc u36 (.cells (nw 0).toArray 24)) (u36.heap.size) 0 := by have h_ := Row.new u36 24 (nw 0); first | exact h_ | (simp only [alloc_sz] at h_; exact h_) | omega
      have hsg15 : u34.heap.size ≤ u36.heap.size := by have h_ := hHeld.1.size; first | exact h_ | (simp only [alloc_sz] at h_; exact h_) | omega
      have hng14g15 : u34.heap.size < u36.heap.size := by have h_ := hzg14.size; first | exact h_ | (simp only [alloc_sz] at h_; exact h_) | omega
      replace hzg14 := hzg14.on (below_alloc (Below.refl _ u36) (.cells (nw 0).toArray 24))
      refine hK.out _ _ ⟨below_alloc hHeld.1 _, (HC.out.on (below_alloc hHeld.1 _)).c3⟩ (fun hHeld => ?_)
      clear hK K
      refine nm_ (some 15) ?_
      exact norm_ (by simp only [putAll, aS]) (hCont (u34.heap.size, u36.heap.size) _ ⟨hHeld.1, hzg14, hsg14, hzg15, hsg15, Nat.ne_of_lt hng14g15⟩)
     ·skip
      refine value_ (w1 := ?_) (v := ?_) (by rfl) rfl ?_ ?_
      rotate_left 2
      ·go_simp
       constructor
       ·rfl
       ·rfl
      have hzg15 : NAt (World.alloc u35 (.cells (nw 0).toArray 24)) (u35.heap.size) 0 := by have h_ := Row.new u35 24 (nw 0); first | exact h_ | (simp only [alloc_sz] at h_; exact h_) | omega
      have hsg15 : u34.heap.size ≤ u35.heap.size := by have h_ := hHeld.1.size; first | exact h_ | (simp only [alloc_sz] at h_; exact h_) | omega
      have hng14g15 : u34.heap.size < u35.heap.size := by have h_ := hzg14.size; first | exact h_ | (simp only [alloc_sz] at h_; exact h_) | omega
      replace hzg14 := hzg14.on (below_alloc (Below.refl _ u35) (.cells (nw 0).toArray 24))
      refine hK.out _ _ ⟨below_alloc hHeld.1 _, (HC.out.on (below_alloc hHeld.1 _)).c3⟩ (fun hHeld => ?_)
      clear hK K
      refine nm_ (some 15) ?_
      refine on1_ 9 (some 107) (bs 14 4095) rfl fun K hK => ?_
      refine gF_ Try.func53 gf (numV t3) (numV t11) rfl ?_
      with_reducible refine (K16.out _ (HF.out.on hHeld.1)).mono ?_
      rintro e u36 ⟨rfl, hb_u36⟩
      refine ⟨_, rfl, ?_⟩
      have hq_u36 := bl_on hHeld.1 hb_u36 hHeld.1.size
      replace hzg14 := hzg14.on hb_u36
      replace hzg15 := hzg15.on hb_u36
      refine hK.out _ _ ⟨hq_u36, (HC.out.on (hq_u36)).c3⟩ (fun hHeld => ?_)
      clear hK K
      refine nm_ (some 107) ?_
      exact norm_ (by simp only [putAll, aS]) (hCont (u34.heap.size, u35.heap.size) _ ⟨hHeld.1, hzg14, hsg14, hzg15, hsg15, Nat.ne_of_lt hng14g15⟩)
    ·skip
     refine value_ (w1 := ?_) (v := ?_) (by rfl) rfl ?_ ?_
     rotate_left 2
     ·go_simp
      constructor
      ·rfl
      ·rfl
     have hzg15 : NAt (World.alloc (World.alloc (World.drew u34) (.cells (nw 0).toArray 24)) (.cells (nw 0).toArray 24)) (u34.heap.size + 1) 0 := by have h_ := Row.new (World.alloc (World.drew u34) (.cells (nw 0).toArray 24)) 24 (nw 0); first | exact h_ | (simp only [alloc_sz] at h_; exact h_) | omega
     have hsg15 : u34.heap.size ≤ u34.heap.size + 1 := by have h_ := hHeld.1.size; first | exact h_ | (simp only [alloc_sz] at h_; exact h_) | omega
     have hng14g15 : u34.heap.size < u34.heap.size + 1 := by have h_ := hzg14.size; first | exact h_ | (simp only [alloc_sz] at h_; exact h_) | omega
     replace hzg14 := hzg14.on (below_alloc (Below.refl _ (World.alloc (World.drew u34) (.cells (nw 0).toArray 24))) (.cells (nw 0).toArray 24))
     refine hK.out _ _ ⟨below_alloc hHeld.1 _, (HC.out.on (below_alloc hHeld.1 _)).c3⟩ (fun hHeld => ?_)
     clear hK K
     refine nm_ (some 15) ?_
     refine on1_ 4 (some 102) (bs 14 3583) rfl fun K hK => ?_
     refine gF_ Try.func53 gf (numV t11) (numV t9) rfl ?_
     with_reducible refine (K15.out _ (HF.out.on hHeld.1)).mono ?_
     rintro e u35 ⟨rfl, hb_u35⟩
     refine ⟨_, rfl, ?_⟩
     have hq_u35 := bl_on hHeld.1 hb_u35 hHeld.1.size
     replace hzg14 := hzg14.on hb_u35
     replace hzg15 := hzg15.on hb_u35
     refine hK.out _ _ ⟨hq_u35, (HC.out.on (hq_u35)).c3⟩ (fun hHeld => ?_)
     clear hK K
     refine nm_ (some 102) ?_
     refine on1_ 9 (some 107) (bs 14 4095) rfl fun K hK => ?_
     refine gF_ Try.func53 gf (numV t3) (numV t11) rfl ?_
     with_reducible refine (K16.out _ (HF.out.on hHeld.1)).mono ?_
     rintro e u36 ⟨rfl, hb_u36⟩
     refine ⟨_, rfl, ?_⟩
     have hq_u36 := bl_on hHeld.1 hb_u36 hHeld.1.size
     replace hzg14 := hzg14.on hb_u36
     replace hzg15 := hzg15.on hb_u36
     refine hK.out _ _ ⟨hq_u36, (HC.out.on (hq_u36)).c3⟩ (fun hHeld => ?_)
     clear hK K
     refine nm_ (some 107) ?_
     exact norm_ (by simp only [putAll, aS]) (hCont (u34.heap.size, u34.heap.size + 1) _ ⟨hHeld.1, hzg14, hsg14, hzg15, hsg15, Nat.ne_of_lt hng14g15⟩)
   ·skip
    refine value_ (w1 := ?_) (v := ?_) (by rfl) rfl ?_ ?_
    rotate_left 2
    ·go_simp
     constructor
     ·rfl
     ·rfl
    have hzg15 : NAt (World.alloc (World.drew u34) (.cells (nw 0).toArray 24)) (u34.heap.size) 0 := by have h_ := Row.new (World.drew u34) 24 (nw 0); first | exact h_ | (simp only [alloc_sz] at h_; exact h_) | omega
    have hsg15 : u34.heap.size ≤ u34.heap.size := by have h_ := hHeld.1.size; first | exact h_ | (simp only [alloc_sz] at h_; exact h_) | omega
    refine hK.out _ _ ⟨below_alloc hHeld.1 _, (HC.out.on (below_alloc hHeld.1 _)).c3⟩ (fun hHeld => ?_)
    clear hK K
    refine nm_ (some 15) ?_
    refine tw_ 4 10 (some 102) (some 14) (bs 14 2559) (bs 14 3567) rfl rfl (fun K hK => ?_) (fun K hK => ?_)
    ·skip
     refine gF_ Try.func53 gf (numV t11) (numV t9) rfl ?_
     with_reducible refine (K15.out _ (HF.out.on hHeld.1)).mono ?_
     rintro e u35 ⟨rfl, hb_u35⟩
     refine ⟨_, rfl, ?_⟩
     have hq_u35 := bl_on hHeld.1 hb_u35 hHeld.1.size
     replace hzg15 := hzg15.on hb_u35
     refine hK.out _ _ ⟨hq_u35, (HC.out.on (hq_u35)).c3⟩ (fun hHeld => ?_)
     clear hK K
     refine nm_ (some 102) ?_
     refine tw_ 9 10 (some 107) (some 14) (bs 14 3071) (bs 14 3583) rfl rfl (fun K hK => ?_) (fun K hK => ?_)
     ·skip
      refine gF_ Try.func53 gf (numV t3) (numV t11) rfl ?_
      with_reducible refine (K16.out _ (HF.out.on hHeld.1)).mono ?_
      rintro e u36 ⟨rfl, hb_u36⟩
      refine ⟨_, rfl, ?_⟩
      have hq_u36 := bl_on hHeld.1 hb_u36 hHeld.1.size
      replace hzg15 := hzg15.on hb_u36
      refine hK.out _ _ ⟨hq_u36, (HC.out.on (hq_u36)).c3⟩ (fun hHeld => ?_)
      clear hK K
      refine nm_ (some 107) ?_
      refine on1_ 10 (some 14) (bs 14 4095) rfl fun K hK => ?_
      refine value_ (w1 := ?_) (v := ?_) (by rfl) rfl ?_ ?_
      rotate_left 2
      ·go_simp
       constructor
       ·rfl
       ·rfl
      have hzg14 : NAt (World.alloc u36 (.cells (nw 0).toArray 24)) (u36.heap.size) 0 := by have h_ := Row.new u36 24 (nw 0); first | exact h_ | (simp only [alloc_sz] at h_; exact h_) | omega
      have hsg14 : u34.heap.size ≤ u36.heap.size := by have h_ := hHeld.1.size; first | exact h_ | (simp only [alloc_sz] at h_; exact h_) | omega
      have hng15g14 : u34.heap.size < u36.heap.size := by have h_ := hzg15.size; first | exact h_ | (simp only [alloc_sz] at h_; exact h_) | omega
      replace hzg15 := hzg15.on (below_alloc (Below.refl _ u36) (.cells (nw 0).toArray 24))
      refine hK.out _ _ ⟨below_alloc hHeld.1 _, (HC.out.on (below_alloc hHeld.1 _)).c3⟩ (fun hHeld => ?_)
      clear hK K
      refine nm_ (some 14) ?_
      exact norm_ (by simp only [putAll, aS]) (hCont (u36.heap.size, u34.heap.size) _ ⟨hHeld.1, hzg14, hsg14, hzg15, hsg15, Nat.ne_of_gt hng15g14⟩)
     ·skip
      refine value_ (w1 := ?_) (v := ?_) (by rfl) rfl ?_ ?_
      rotate_left 2
      ·go_simp
       constructor
       ·rfl
       ·rfl
      have hzg14 : NAt (World.alloc u35 (.cells (nw 0).toArray 24)) (u35.heap.size) 0 := by have h_ := Row.new u35 24 (nw 0); first | exact h_ | (simp only [alloc_sz] at h_; exact h_) | omega
      have hsg14 : u34.heap.size ≤ u35.heap.size := by have h_ := hHeld.1.size; first | exact h_ | (simp only [alloc_sz] at h_; exact h_) | omega
      have hng15g14 : u34.heap.size < u35.heap.size := by have h_ := hzg15.size; first | exact h_ | (simp only [alloc_sz] at h_; exact h_) | omega
      replace hzg15 := hzg15.on (below_alloc (Below.refl _ u35) (.cells (nw 0).toArray 24))
      refine hK.out _ _ ⟨below_alloc hHeld.1 _, (HC.out.on (below_alloc hHeld.1 _)).c3⟩ (fun hHeld => ?_)
      clear hK K
      refine nm_ (some 14) ?_
      refine on1_ 9 (some 107) (bs 14 4095) rfl fun K hK => ?_
      refine gF_ Try.func53 gf (numV t3) (numV t11) rfl ?_
      with_reducible refine (K16.out _ (HF.out.on hHeld.1)).mono ?_
      rintro e u36 ⟨rfl, hb_u36⟩
      refine ⟨_, rfl, ?_⟩
      have hq_u36 := bl_on hHeld.1 hb_u36 hHeld.1.size
      replace hzg15 := hzg15.on hb_u36
      replace hzg14 := hzg14.on hb_u36
      refine hK.out _ _ ⟨hq_u36, (HC.out.on (hq_u36)).c3⟩ (fun hHeld => ?_)
      clear hK K
      refine nm_ (some 107) ?_
      exact norm_ (by simp only [putAll, aS]) (hCont (u35.heap.size, u34.heap.size) _ ⟨hHeld.1, hzg14, hsg14, hzg15, hsg15, Nat.ne_of_gt hng15g14⟩)
    ·skip
     refine value_ (w1 := ?_) (v := ?_) (by rfl) rfl ?_ ?_
     rotate_left 2
     ·go_simp
      constructor
      ·rfl
      ·rfl
     have hzg14 : NAt (World.alloc (World.alloc (World.drew u34) (.cells (nw 0).toArray 24)) (.cells (nw 0).toArray 24)) (u34.heap.size + 1) 0 := by have h_ := Row.new (World.alloc (World.drew u34) (.cells (nw 0).toArray 24)) 24 (nw 0); first | exact h_ | (simp only [alloc_sz] at h_; exact h_) | omega
     have hsg14 : u34.heap.size ≤ u34.heap.size + 1 := by have h_ := hHeld.1.size; first | exact h_ | (simp only [alloc_sz] at h_; exact h_) | omega
     have hng15g14 : u34.heap.size < u34.heap.size + 1 := by have h_ := hzg15.size; first | exact h_ | (simp only [alloc_sz] at h_; exact h_) | omega
     replace hzg15 := hzg15.on (below_alloc (Below.refl _ (World.alloc (World.drew u34) (.cells (nw 0).toArray 24))) (.cells (nw 0).toArray 24))
     refine hK.out _ _ ⟨below_alloc hHeld.1 _, (HC.out.on (below_alloc hHeld.1 _)).c3⟩ (fun hHeld => ?_)
     clear hK K
     refine nm_ (some 14) ?_
     refine on1_ 4 (some 102) (bs 14 3583) rfl fun K hK => ?_
     refine gF_ Try.func53 gf (numV t11) (numV t9) rfl ?_
     with_reducible refine (K15.out _ (HF.out.on hHeld.1)).mono ?_
     rintro e u35 ⟨rfl, hb_u35⟩
     refine ⟨_, rfl, ?_⟩
     have hq_u35 := bl_on hHeld.1 hb_u35 hHeld.1.size
     replace hzg15 := hzg15.on hb_u35
     replace hzg14 := hzg14.on hb_u35
     refine hK.out _ _ ⟨hq_u35, (HC.out.on (hq_u35)).c3⟩ (fun hHeld => ?_)
     clear hK K
     refine nm_ (some 102) ?_
     refine on1_ 9 (some 107) (bs 14 4095) rfl fun K hK => ?_
     refine gF_ Try.func53 gf (numV t3) (numV t11) rfl ?_
     with_reducible refine (K16.out _ (HF.out.on hHeld.1)).mono ?_
     rintro e u36 ⟨rfl, hb_u36⟩
     refine ⟨_, rfl, ?_⟩
     have hq_u36 := bl_on hHeld.1 hb_u36 hHeld.1.size
     replace hzg15 := hzg15.on hb_u36
     replace hzg14 := hzg14.on hb_u36
     refine hK.out _ _ ⟨hq_u36, (HC.out.on (hq_u36)).c3⟩ (fun hHeld => ?_)
     clear hK K
     refine nm_ (some 107) ?_
     exact norm_ (by simp only [putAll, aS]) (hCont (u34.heap.size + 1, u34.heap.size) _ ⟨hHeld.1, hzg14, hsg14, hzg15, hsg15, Nat.ne_of_gt hng15g14⟩)
  rintro ⟨g14, g15⟩ v37 ⟨hHeld0, hzg14, hsg14, hzg15, hsg15, hneg14g15⟩
  have hHeld : Below u34.heap.size u34 v37 ∧ v37.cell? ⟨w.heap.size, 3, none⟩ = some (mthV 53 gf) := ⟨hHeld0, (HC.out.on (hHeld0)).c3⟩
  clear hHeld0
  refine norm_ (a' := ?_) ?_ ?_
  rotate_left
  ·simp only [putAll, aS]
   rfl
  refine on1_ 12 none (bs 14 8191) rfl fun K hK => ?_
  refine skip_num (hzg14) (by rfl) rfl (.tmp 14) (.tmp 102) rfl rfl rfl ?_
  intro q38 hA_q38 hT_q38
  refine hK.out _ _ ⟨bl_but hHeld.1 hT_q38 hHeld.1.size hsg14, (HC.out.on (bl_but hHeld.1 hT_q38 hHeld.1.size hsg14)).c3⟩ (fun hHeld => ?_)
  clear hK K
  refine last_ (i := 13) (N := none) (bs 14 16383) rfl rfl (by kernel_rfl) (by decide) (fun K hK => ?_)
  refine skip_num ((hzg15).but hT_q38 hneg14g15.symm) (by rfl) rfl (.tmp 15) (.tmp 107) rfl rfl rfl ?_
  intro q39 hA_q39 hT_q39
  refine hK.out _ _ ?_
  clear hK K
  refine done_ (by kernel_rfl) ?_
  have HXg14 : Aside0 (w.heap.size + 1 + 1 + 1 + 1 ≤ g14 ∧ g7 < g14 ∧ g8 < g14 ∧ g9 < g14 ∧ g10 < g14 ∧ g11 < g14 ∧ g12 < g14 ∧ g13 < g14) := Aside0.mk (⟨Nat.le_trans HS.out hsg14, Nat.lt_of_lt_of_le Hg7.out.size hsg14, Nat.lt_of_lt_of_le Hg8.out.size hsg14, Nat.lt_of_lt_of_le Hg9.out.size hsg14, Nat.lt_of_lt_of_le Hg10.out.size hsg14, Nat.lt_of_lt_of_le Hg11.out.size hsg14, Nat.lt_of_lt_of_le Hg12.out.size hsg14, Nat.lt_of_lt_of_le Hg13.out.size hsg14⟩)
  have HXg15 : Aside0 (w.heap.size + 1 + 1 + 1 + 1 ≤ g15 ∧ g7 < g15 ∧ g8 < g15 ∧ g9 < g15 ∧ g10 < g15 ∧ g11 < g15 ∧ g12 < g15 ∧ g13 < g15) := Aside0.mk (⟨Nat.le_trans HS.out hsg15, Nat.lt_of_lt_of_le Hg7.out.size hsg15, Nat.lt_of_lt_of_le Hg8.out.size hsg15, Nat.lt_of_lt_of_le Hg9.out.size hsg15, Nat.lt_of_lt_of_le Hg10.out.size hsg15, Nat.lt_of_lt_of_le Hg11.out.size hsg15, Nat.lt_of_lt_of_le Hg12.out.size hsg15, Nat.lt_of_lt_of_le Hg13.out.size hsg15⟩)
  have HXg14g15 : Aside0 (g14 ≠ g15) := Aside0.mk hneg14g15
  replace HC := Aside0.mk (HC.out.on hHeld.1)
  replace HP1 := Aside0.mk (HP1.out.on hHeld.1)
  replace HP2 := Aside0.mk (HP2.out.on hHeld.1)
  replace HR := Aside0.mk (HR.out.on hHeld.1)
  replace Hg7 := Aside0.mk (Hg7.out.on hHeld.1)
  replace Hg8 := Aside0.mk (Hg8.out.on hHeld.1)
  replace Hg9 := Aside0.mk (Hg9.out.on hHeld.1)
  replace Hg10 := Aside0.mk (Hg10.out.on hHeld.1)
  replace Hg11 := Aside0.mk (Hg11.out.on hHeld.1)
  replace Hg12 := Aside0.mk (Hg12.out.on hHeld.1)
  replace Hg13 := Aside0.mk (Hg13.out.on hHeld.1)
  replace HF := Aside0.mk (HF.out.on hHeld.1)
  replace HB := Aside0.mk (bl_on HB.out hHeld.1 HB.out.size)
  replace HS := Aside0.mk (Nat.le_trans HS.out hHeld.1.size)
  have Hg14 := Aside0.mk hA_q38
  replace HC := Aside0.mk (HC.out.but hT_q39 (by have := HXg7.out; have := HXg8.out; have := HXg9.out; have := HXg10.out; have := HXg11.out; have := HXg12.out; have := HXg13.out; have := HXg14.out; have := HXg15.out; have := HXg7g8.out; have := HXg9g10.out; have := HXg11g12.out; have := HXg14g15.out; have := HG.out; omega))
  replace HP1 := Aside0.mk (HP1.out.but hT_q39 (by have := HXg7.out; have := HXg8.out; have := HXg9.out; have := HXg10.out; have := HXg11.out; have := HXg12.out; have := HXg13.out; have := HXg14.out; have := HXg15.out; have := HXg7g8.out; have := HXg9g10.out; have := HXg11g12.out; have := HXg14g15.out; have := HG.out; omega))
  replace HP2 := Aside0.mk (HP2.out.but hT_q39 (by have := HXg7.out; have := HXg8.out; have := HXg9.out; have := HXg10.out; have := HXg11.out; have := HXg12.out; have := HXg13.out; have := HXg14.out; have := HXg15.out; have := HXg7g8.out; have := HXg9g10.out; have := HXg11g12.out; have := HXg14g15.out; have := HG.out; omega))
  replace HR := Aside0.mk (HR.out.but hT_q39 (by have := HXg7.out; have := HXg8.out; have := HXg9.out; have := HXg10.out; have := HXg11.out; have := HXg12.out; have := HXg13.out; have := HXg14.out; have := HXg15.out; have := HXg7g8.out; have := HXg9g10.out; have := HXg11g12.out; have := HXg14g15.out; have := HG.out; omega))
  replace Hg7 := Aside0.mk (Hg7.out.but hT_q39 (by have := HXg7.out; have := HXg8.out; have := HXg9.out; have := HXg10.out; have := HXg11.out; have := HXg12.out; have := HXg13.out; have := HXg14.out; have := HXg15.out; have := HXg7g8.out; have := HXg9g10.out; have := HXg11g12.out; have := HXg14g15.out; have := HG.out; omega))
  replace Hg8 := Aside0.mk (Hg8.out.but hT_q39 (by have := HXg7.out; have := HXg8.out; have := HXg9.out; have := HXg10.out; have := HXg11.out; have := HXg12.out; have := HXg13.out; have := HXg14.out; have := HXg15.out; have := HXg7g8.out; have := HXg9g10.out; have := HXg11g12.out; have := HXg14g15.out; have := HG.out; omega))
  replace Hg9 := Aside0.mk (Hg9.out.but hT_q39 (by have := HXg7.out; have := HXg8.out; have := HXg9.out; have := HXg10.out; have := HXg11.out; have := HXg12.out; have := HXg13.out; have := HXg14.out; have := HXg15.out; have := HXg7g8.out; have := HXg9g10.out; have := HXg11g12.out; have := HXg14g15.out; have := HG.out; omega))
  replace Hg10 := Aside0.mk (Hg10.out.but hT_q39 (by have := HXg7.out; have := HXg8.out; have := HXg9.out; have := HXg10.out; have := HXg11.out; have := HXg12.out; have := HXg13.out; have := HXg14.out; have := HXg15.out; have := HXg7g8.out; have := HXg9g10.out; have := HXg11g12.out; have := HXg14g15.out; have := HG.out; omega))
  replace Hg11 := Aside0.mk (Hg11.out.but hT_q39 (by have := HXg7.out; have := HXg8.out; have := HXg9.out; have := HXg10.out; have := HXg11.out; have := HXg12.out; have := HXg13.out; have := HXg14.out; have := HXg15.out; have := HXg7g8.out; have := HXg9g10.out; have := HXg11g12.out; have := HXg14g15.out; have := HG.out; omega))
  replace Hg12 := Aside0.mk (Hg12.out.but hT_q39 (by have := HXg7.out; have := HXg8.out; have := HXg9.out; have := HXg10.out; have := HXg11.out; have := HXg12.out; have := HXg13.out; have := HXg14.out; have := HXg15.out; have := HXg7g8.out; have := HXg9g10.out; have := HXg11g12.out; have := HXg14g15.out; have := HG.out; omega))
  replace Hg13 := Aside0.mk (Hg13.out.but hT_q39 (by have := HXg7.out; have := HXg8.out; have := HXg9.out; have := HXg10.out; have := HXg11.out; have := HXg12.out; have := HXg13.out; have := HXg14.out; have := HXg15.out; have := HXg7g8.out; have := HXg9g10.out; have := HXg11g12.out; have := HXg14g15.out; have := HG.out; omega))
  replace Hg14 := Aside0.mk (Hg14.out.but hT_q39 (by have := HXg7.out; have := HXg8.out; have := HXg9.out; have := HXg10.out; have := HXg11.out; have := HXg12.out; have := HXg13.out; have := HXg14.out; have := HXg15.out; have := HXg7g8.out; have := HXg9g10.out; have := HXg11g12.out; have := HXg14g15.out; have := HG.out; omega))
  replace HF := Aside0.mk (HF.out.but hT_q39 (by have := HXg7.out; have := HXg8.out; have := HXg9.out; have := HXg10.out; have := HXg11.out; have := HXg12.out; have := HXg13.out; have := HXg14.out; have := HXg15.out; have := HXg7g8.out; have := HXg9g10.out; have := HXg11g12.out; have := HXg14g15.out; have := HG.out; omega))
  have Hg15 := Aside0.mk hA_q39
  replace HB := Aside0.mk (bl_but HB.out hT_q39 HB.out.size (by have := HXg7.out; have := HXg8.out; have := HXg9.out; have := HXg10.out; have := HXg11.out; have := HXg12.out; have := HXg13.out; have := HXg14.out; have := HXg15.out; have := HXg7g8.out; have := HXg9g10.out; have := HXg11g12.out; have := HXg14g15.out; have := HG.out; omega))
  replace HS := Aside0.mk (Nat.le_trans HS.out hT_q39.size)
  clear hA_q38 hT_q38 hA_q39 hT_q39 hzg14 hsg14 hzg15 hsg15 hneg14g15 hHeld
  go_wp2
  refine start_ (n := 15) (S := fun w' => Below q39.heap.size q39 w' ∧ w'.cell? ⟨w.heap.size, 2, none⟩ = some (mthV 52 gf)) (ds := [14]) (bs 15 0) (by kernel_rfl) rfl rfl ⟨(Below.refl _ _).drew, HC.out.c2⟩ (fun hHeld => ?_)
  refine pu_ 0 108 (bs 15 1) ?_ ?_ ?_ ?_ ?_
  rotate_left
  ·intro w'
   go_simp
   with_reducible rfl
  rotate_left
  ·simp only [aS, i64_w, i32_w]
   rfl
  refine pu_ 2 110 (bs 15 5) ?_ ?_ ?_ ?_ ?_
  rotate_left
  ·intro w'
   go_simp
   with_reducible rfl
  rotate_left
  ·simp only [aS, i64_w, i32_w]
   rfl
  refine tk_ 1 109 (bs 15 7) ?_ ?_ hHeld ?_ ?_ ?_
  rotate_left
  ·rintro w' ⟨s0, s1⟩
   go_simp
   with_reducible rfl
  rotate_left
  ·simp only [aS, i64_w, i32_w]
   rfl
  refine tk_ 3 111 (bs 15 15) ?_ ?_ hHeld ?_ ?_ ?_
  rotate_left
  ·rintro w' ⟨s0, s1⟩
   go_simp
   with_reducible rfl
  rotate_left
  ·simp only [aS, i64_w, i32_w]
   rfl
  refine take_ (i := 4) (N := some 112) (a' := ?_) (bs 15 31) rfl rfl (by kernel_rfl) (fun _ _ _ h => h) (yieldsIf_load_mid (by rfl) 58 (.tmp 3) rfl w.heap.size 0 rfl ((cvl gf)) _ (fun w' hS => (HC.out.on hS.1).range) rfl rfl (rfl)) hHeld ?_ ?_
  rotate_left
  ·simp only [aS, i64_w, i32_w]
   rfl
  refine take_ (i := 5) (N := some 113) (a' := ?_) (bs 15 63) rfl rfl (by kernel_rfl) (fun _ _ _ h => h) (yields_num (g := g12) (o := 0) (n := t10) (by rfl) (.tmp 12) rfl rfl (fun w' hS => (Hg12.out.on hS.1).range)) hHeld ?_ ?_
  rotate_left
  ·simp only [aS, i64_w, i32_w]
   rfl
  refine take_ (i := 7) (N := some 115) (a' := ?_) (bs 15 191) rfl rfl (by kernel_rfl) (fun _ _ _ h => h) (yields_num (g := g14) (o := 0) (n := t12) (by rfl) (.tmp 14) rfl rfl (fun w' hS => (Hg14.out.on hS.1).range)) hHeld ?_ ?_
  rotate_left
  ·simp only [aS, i64_w, i32_w]
   rfl
  refine take_ (i := 9) (N := some 117) (a' := ?_) (bs 15 703) rfl rfl (by kernel_rfl) (fun _ _ _ h => h) (yieldsIf_load_mid (by rfl) 58 (.tmp 3) rfl w.heap.size 0 rfl ((cvl gf)) _ (fun w' hS => (HC.out.on hS.1).range) rfl rfl (rfl)) hHeld ?_ ?_
  rotate_left
  ·simp only [aS, i64_w, i32_w]
   rfl
  refine take_ (i := 10) (N := some 118) (a' := ?_) (bs 15 1727) rfl rfl (by kernel_rfl) (fun _ _ _ h => h) (yields_num (g := g15) (o := 0) (n := t13) (by rfl) (.tmp 15) rfl rfl (fun w' hS => (Hg15.out.on hS.1).range)) hHeld ?_ ?_
  rotate_left
  ·simp only [aS, i64_w, i32_w]
   rfl
  refine join_ (σ := Nat) 1 (bs 15 16383) (fun s => [(16, .pointer (some ⟨s, 0, none⟩)), (114, numV t14), (116, numV t15), (119, numV t16), (120, numV t17)]) (fun s w' => Below q39.heap.size q39 w' ∧ NAt w' s 0 ∧ q39.heap.size ≤ s) ?_ ?_
  rotate_left
  ·intro hCont
   refine tw_ 6 13 (some 114) (some 16) (bs 15 1791) (bs 15 9919) rfl rfl (fun K hK => ?_) (fun K hK => ?_)
   ·skip
    refine gs_ Try.func55 #[cvV gf, numV t10] rfl ?_
    with_reducible refine (K17.out _ (HF.out.on hHeld.1)).mono ?_
    rintro e u40 ⟨rfl, hb_u40⟩
    refine ⟨_, rfl, ?_⟩
    have hq_u40 := bl_on hHeld.1 hb_u40 hHeld.1.size
    refine hK.out _ _ ⟨hq_u40, (HC.out.on (hq_u40)).c2⟩ (fun hHeld => ?_)
    clear hK K
    refine nm_ (some 114) ?_
    refine tw_ 8 13 (some 116) (some 16) (bs 15 2047) (bs 15 9983) rfl rfl (fun K hK => ?_) (fun K hK => ?_)
    ·skip
     refine gF_ Try.func52 gf (numV t14) (numV t12) rfl ?_
     with_reducible refine (K18.out _ (HF.out.on hHeld.1)).mono ?_
     rintro e u41 ⟨rfl, hb_u41⟩
     refine ⟨_, rfl, ?_⟩
     have hq_u41 := bl_on hHeld.1 hb_u41 hHeld.1.size
     refine hK.out _ _ ⟨hq_u41, (HC.out.on (hq_u41)).c2⟩ (fun hHeld => ?_)
     clear hK K
     refine nm_ (some 116) ?_
     refine tw_ 11 13 (some 119) (some 16) (bs 15 4095) (bs 15 10239) rfl rfl (fun K hK => ?_) (fun K hK => ?_)
     ·skip
      refine gs_ Try.func56 #[cvV gf, numV t13, .int .u64 ((2 : Nat) : Int)] rfl ?_
      with_reducible refine (K19.out _ (HF.out.on hHeld.1)).mono ?_
      rintro e u42 ⟨rfl, hb_u42⟩
      refine ⟨_, rfl, ?_⟩
      have hq_u42 := bl_on hHeld.1 hb_u42 hHeld.1.size
      refine hK.out _ _ ⟨hq_u42, (HC.out.on (hq_u42)).c2⟩ (fun hHeld => ?_)
      clear hK K
      refine nm_ (some 119) ?_
      refine tw_ 12 13 (some 120) (some 16) (bs 15 8191) (bs 15 12287) rfl rfl (fun K hK => ?_) (fun K hK => ?_)
      ·skip
       refine gF_ Try.func52 gf (numV t15) (numV t16) rfl ?_
       with_reducible refine (K20.out _ (HF.out.on hHeld.1)).mono ?_
       rintro e u43 ⟨rfl, hb_u43⟩
       refine ⟨_, rfl, ?_⟩
       have hq_u43 := bl_on hHeld.1 hb_u43 hHeld.1.size
       refine hK.out _ _ ⟨hq_u43, (HC.out.on (hq_u43)).c2⟩ (fun hHeld => ?_)
       clear hK K
       refine nm_ (some 120) ?_
       refine on1_ 13 (some 16) (bs 15 16383) rfl fun K hK => ?_
       refine value_ (w1 := ?_) (v := ?_) (by rfl) rfl ?_ ?_
       rotate_left 2
       ·go_simp
        constructor
        ·rfl
        ·rfl
       have hzg16 : NAt (World.alloc u43 (.cells (nw 0).toArray 24)) (u43.heap.size) 0 := by have h_ := Row.new u43 24 (nw 0); first | exact h_ | (simp only [alloc_sz] at h_; exact h_) | omega
       have hsg16 : q39.heap.size ≤ u43.heap.size := by have h_ := hHeld.1.size; first | exact h_ | (simp only [alloc_sz] at h_; exact h_) | omega
       refine hK.out _ _ ⟨below_alloc hHeld.1 _, (HC.out.on (below_alloc hHeld.1 _)).c2⟩ (fun hHeld => ?_)
       clear hK K
       refine nm_ (some 16) ?_
       exact norm_ (by simp only [putAll, aS]) (hCont (u43.heap.size) _ ⟨hHeld.1, hzg16, hsg16⟩)
      ·skip
       refine value_ (w1 := ?_) (v := ?_) (by rfl) rfl ?_ ?_
       rotate_left 2
       ·go_simp
        constructor
        ·rfl
        ·rfl
       have hzg16 : NAt (World.alloc u42 (.cells (nw 0).toArray 24)) (u42.heap.size) 0 := by have h_ := Row.new u42 24 (nw 0); first | exact h_ | (simp only [alloc_sz] at h_; exact h_) | omega
       have hsg16 : q39.heap.size ≤ u42.heap.size := by have h_ := hHeld.1.size; first | exact h_ | (simp only [alloc_sz] at h_; exact h_) | omega
       refine hK.out _ _ ⟨below_alloc hHeld.1 _, (HC.out.on (below_alloc hHeld.1 _)).c2⟩ (fun hHeld => ?_)
       clear hK K
       refine nm_ (some 16) ?_
       refine on1_ 12 (some 120) (bs 15 16383) rfl fun K hK => ?_
       refine gF_ Try.func52 gf (numV t15) (numV t16) rfl ?_
       with_reducible refine (K20.out _ (HF.out.on hHeld.1)).mono ?_
       rintro e u43 ⟨rfl, hb_u43⟩
       refine ⟨_, rfl, ?_⟩
       have hq_u43 := bl_on hHeld.1 hb_u43 hHeld.1.size
       replace hzg16 := hzg16.on hb_u43
       refine hK.out _ _ ⟨hq_u43, (HC.out.on (hq_u43)).c2⟩ (fun hHeld => ?_)
       clear hK K
       refine nm_ (some 120) ?_
       exact norm_ (by simp only [putAll, aS]) (hCont (u42.heap.size) _ ⟨hHeld.1, hzg16, hsg16⟩)
     ·skip
      refine value_ (w1 := ?_) (v := ?_) (by rfl) rfl ?_ ?_
      rotate_left 2
      ·go_simp
       constructor
       ·rfl
       ·rfl
      have hzg16 : NAt (World.alloc u41 (.cells (nw 0).toArray 24)) (u41.heap.size) 0 := by have h_ := Row.new u41 24 (nw 0); first | exact h_ | (simp only [alloc_sz] at h_; exact h_) | omega
      have hsg16 : q39.heap.size ≤ u41.heap.size := by have h_ := hHeld.1.size; first | exact h_ | (simp only [alloc_sz] at h_; exact h_) | omega
      refine hK.out _ _ ⟨below_alloc hHeld.1 _, (HC.out.on (below_alloc hHeld.1 _)).c2⟩ (fun hHeld => ?_)
      clear hK K
      refine nm_ (some 16) ?_
      refine on1_ 11 (some 119) (bs 15 12287) rfl fun K hK => ?_
      refine gs_ Try.func56 #[cvV gf, numV t13, .int .u64 ((2 : Nat) : Int)] rfl ?_
      with_reducible refine (K19.out _ (HF.out.on hHeld.1)).mono ?_
      rintro e u42 ⟨rfl, hb_u42⟩
      refine ⟨_, rfl, ?_⟩
      have hq_u42 := bl_on hHeld.1 hb_u42 hHeld.1.size
      replace hzg16 := hzg16.on hb_u42
      refine hK.out _ _ ⟨hq_u42, (HC.out.on (hq_u42)).c2⟩ (fun hHeld => ?_)
      clear hK K
      refine nm_ (some 119) ?_
      refine on1_ 12 (some 120) (bs 15 16383) rfl fun K hK => ?_
      refine gF_ Try.func52 gf (numV t15) (numV t16) rfl ?_
      with_reducible refine (K20.out _ (HF.out.on hHeld.1)).mono ?_
      rintro e u43 ⟨rfl, hb_u43⟩
      refine ⟨_, rfl, ?_⟩
      have hq_u43 := bl_on hHeld.1 hb_u43 hHeld.1.size
      replace hzg16 := hzg16.on hb_u43
      refine hK.out _ _ ⟨hq_u43, (HC.out.on (hq_u43)).c2⟩ (fun hHeld => ?_)
      clear hK K
      refine nm_ (some 120) ?_
      exact norm_ (by simp only [putAll, aS]) (hCont (u41.heap.size) _ ⟨hHeld.1, hzg16, hsg16⟩)
    ·skip
     refine value_ (w1 := ?_) (v := ?_) (by rfl) rfl ?_ ?_
     rotate_left 2
     ·go_simp
      constructor
      ·rfl
      ·rfl
     have hzg16 : NAt (World.alloc u40 (.cells (nw 0).toArray 24)) (u40.heap.size) 0 := by have h_ := Row.new u40 24 (nw 0); first | exact h_ | (simp only [alloc_sz] at h_; exact h_) | omega
     have hsg16 : q39.heap.size ≤ u40.heap.size := by have h_ := hHeld.1.size; first | exact h_ | (simp only [alloc_sz] at h_; exact h_) | omega
     refine hK.out _ _ ⟨below_alloc hHeld.1 _, (HC.out.on (below_alloc hHeld.1 _)).c2⟩ (fun hHeld => ?_)
     clear hK K
     refine nm_ (some 16) ?_
     refine on1_ 8 (some 116) (bs 15 10239) rfl fun K hK => ?_
     refine gF_ Try.func52 gf (numV t14) (numV t12) rfl ?_
     with_reducible refine (K18.out _ (HF.out.on hHeld.1)).mono ?_
     rintro e u41 ⟨rfl, hb_u41⟩
     refine ⟨_, rfl, ?_⟩
     have hq_u41 := bl_on hHeld.1 hb_u41 hHeld.1.size
     replace hzg16 := hzg16.on hb_u41
     refine hK.out _ _ ⟨hq_u41, (HC.out.on (hq_u41)).c2⟩ (fun hHeld => ?_)
     clear hK K
     refine nm_ (some 116) ?_
     refine on1_ 11 (some 119) (bs 15 12287) rfl fun K hK => ?_
     refine gs_ Try.func56 #[cvV gf, numV t13, .int .u64 ((2 : Nat) : Int)] rfl ?_
     with_reducible refine (K19.out _ (HF.out.on hHeld.1)).mono ?_
     rintro e u42 ⟨rfl, hb_u42⟩
     refine ⟨_, rfl, ?_⟩
     have hq_u42 := bl_on hHeld.1 hb_u42 hHeld.1.size
     replace hzg16 := hzg16.on hb_u42
     refine hK.out _ _ ⟨hq_u42, (HC.out.on (hq_u42)).c2⟩ (fun hHeld => ?_)
     clear hK K
     refine nm_ (some 119) ?_
     refine on1_ 12 (some 120) (bs 15 16383) rfl fun K hK => ?_
     refine gF_ Try.func52 gf (numV t15) (numV t16) rfl ?_
     with_reducible refine (K20.out _ (HF.out.on hHeld.1)).mono ?_
     rintro e u43 ⟨rfl, hb_u43⟩
     refine ⟨_, rfl, ?_⟩
     have hq_u43 := bl_on hHeld.1 hb_u43 hHeld.1.size
     replace hzg16 := hzg16.on hb_u43
     refine hK.out _ _ ⟨hq_u43, (HC.out.on (hq_u43)).c2⟩ (fun hHeld => ?_)
     clear hK K
     refine nm_ (some 120) ?_
     exact norm_ (by simp only [putAll, aS]) (hCont (u40.heap.size) _ ⟨hHeld.1, hzg16, hsg16⟩)
   ·skip
    refine value_ (w1 := ?_) (v := ?_) (by rfl) rfl ?_ ?_
    rotate_left 2
    ·go_simp
     constructor
     ·rfl
     ·rfl
    have hzg16 : NAt (World.alloc (World.drew q39) (.cells (nw 0).toArray 24)) (q39.heap.size) 0 := by have h_ := Row.new (World.drew q39) 24 (nw 0); first | exact h_ | (simp only [alloc_sz] at h_; exact h_) | omega
    have hsg16 : q39.heap.size ≤ q39.heap.size := by have h_ := hHeld.1.size; first | exact h_ | (simp only [alloc_sz] at h_; exact h_) | omega
    refine hK.out _ _ ⟨below_alloc hHeld.1 _, (HC.out.on (below_alloc hHeld.1 _)).c2⟩ (fun hHeld => ?_)
    clear hK K
    refine nm_ (some 16) ?_
    refine on1_ 6 (some 114) (bs 15 9983) rfl fun K hK => ?_
    refine gs_ Try.func55 #[cvV gf, numV t10] rfl ?_
    with_reducible refine (K17.out _ (HF.out.on hHeld.1)).mono ?_
    rintro e u40 ⟨rfl, hb_u40⟩
    refine ⟨_, rfl, ?_⟩
    have hq_u40 := bl_on hHeld.1 hb_u40 hHeld.1.size
    replace hzg16 := hzg16.on hb_u40
    refine hK.out _ _ ⟨hq_u40, (HC.out.on (hq_u40)).c2⟩ (fun hHeld => ?_)
    clear hK K
    refine nm_ (some 114) ?_
    refine on1_ 8 (some 116) (bs 15 10239) rfl fun K hK => ?_
    refine gF_ Try.func52 gf (numV t14) (numV t12) rfl ?_
    with_reducible refine (K18.out _ (HF.out.on hHeld.1)).mono ?_
    rintro e u41 ⟨rfl, hb_u41⟩
    refine ⟨_, rfl, ?_⟩
    have hq_u41 := bl_on hHeld.1 hb_u41 hHeld.1.size
    replace hzg16 := hzg16.on hb_u41
    refine hK.out _ _ ⟨hq_u41, (HC.out.on (hq_u41)).c2⟩ (fun hHeld => ?_)
    clear hK K
    refine nm_ (some 116) ?_
    refine on1_ 11 (some 119) (bs 15 12287) rfl fun K hK => ?_
    refine gs_ Try.func56 #[cvV gf, numV t13, .int .u64 ((2 : Nat) : Int)] rfl ?_
    with_reducible refine (K19.out _ (HF.out.on hHeld.1)).mono ?_
    rintro e u42 ⟨rfl, hb_u42⟩
    refine ⟨_, rfl, ?_⟩
    have hq_u42 := bl_on hHeld.1 hb_u42 hHeld.1.size
    replace hzg16 := hzg16.on hb_u42
    refine hK.out _ _ ⟨hq_u42, (HC.out.on (hq_u42)).c2⟩ (fun hHeld => ?_)
    clear hK K
    refine nm_ (some 119) ?_
    refine on1_ 12 (some 120) (bs 15 16383) rfl fun K hK => ?_
    refine gF_ Try.func52 gf (numV t15) (numV t16) rfl ?_
    with_reducible refine (K20.out _ (HF.out.on hHeld.1)).mono ?_
    rintro e u43 ⟨rfl, hb_u43⟩
    refine ⟨_, rfl, ?_⟩
    have hq_u43 := bl_on hHeld.1 hb_u43 hHeld.1.size
    replace hzg16 := hzg16.on hb_u43
    refine hK.out _ _ ⟨hq_u43, (HC.out.on (hq_u43)).c2⟩ (fun hHeld => ?_)
    clear hK K
    refine nm_ (some 120) ?_
    exact norm_ (by simp only [putAll, aS]) (hCont (q39.heap.size) _ ⟨hHeld.1, hzg16, hsg16⟩)
  rintro g16 v44 ⟨hHeld0, hzg16, hsg16⟩
  have hHeld : Below q39.heap.size q39 v44 ∧ v44.cell? ⟨w.heap.size, 2, none⟩ = some (mthV 52 gf) := ⟨hHeld0, (HC.out.on (hHeld0)).c2⟩
  clear hHeld0
  refine norm_ (a' := ?_) ?_ ?_
  rotate_left
  ·simp only [putAll, aS]
   rfl
  refine last_ (i := 14) (N := none) (bs 15 32767) rfl rfl (by kernel_rfl) (by decide) (fun K hK => ?_)
  refine skip_num (hzg16) (by rfl) rfl (.tmp 16) (.tmp 120) rfl rfl rfl ?_
  intro q45 hA_q45 hT_q45
  refine hK.out _ _ ?_
  clear hK K
  refine done_ (by kernel_rfl) ?_
  have HXg16 : Aside0 (w.heap.size + 1 + 1 + 1 + 1 ≤ g16 ∧ g7 < g16 ∧ g8 < g16 ∧ g9 < g16 ∧ g10 < g16 ∧ g11 < g16 ∧ g12 < g16 ∧ g13 < g16 ∧ g14 < g16 ∧ g15 < g16) := Aside0.mk (⟨Nat.le_trans HS.out hsg16, Nat.lt_of_lt_of_le Hg7.out.size hsg16, Nat.lt_of_lt_of_le Hg8.out.size hsg16, Nat.lt_of_lt_of_le Hg9.out.size hsg16, Nat.lt_of_lt_of_le Hg10.out.size hsg16, Nat.lt_of_lt_of_le Hg11.out.size hsg16, Nat.lt_of_lt_of_le Hg12.out.size hsg16, Nat.lt_of_lt_of_le Hg13.out.size hsg16, Nat.lt_of_lt_of_le Hg14.out.size hsg16, Nat.lt_of_lt_of_le Hg15.out.size hsg16⟩)
  replace HC := Aside0.mk (HC.out.on hHeld.1)
  replace HP1 := Aside0.mk (HP1.out.on hHeld.1)
  replace HP2 := Aside0.mk (HP2.out.on hHeld.1)
  replace HR := Aside0.mk (HR.out.on hHeld.1)
  replace Hg7 := Aside0.mk (Hg7.out.on hHeld.1)
  replace Hg8 := Aside0.mk (Hg8.out.on hHeld.1)
  replace Hg9 := Aside0.mk (Hg9.out.on hHeld.1)
  replace Hg10 := Aside0.mk (Hg10.out.on hHeld.1)
  replace Hg11 := Aside0.mk (Hg11.out.on hHeld.1)
  replace Hg12 := Aside0.mk (Hg12.out.on hHeld.1)
  replace Hg13 := Aside0.mk (Hg13.out.on hHeld.1)
  replace Hg14 := Aside0.mk (Hg14.out.on hHeld.1)
  replace Hg15 := Aside0.mk (Hg15.out.on hHeld.1)
  replace HF := Aside0.mk (HF.out.on hHeld.1)
  replace HB := Aside0.mk (bl_on HB.out hHeld.1 HB.out.size)
  replace HS := Aside0.mk (Nat.le_trans HS.out hHeld.1.size)
  replace HC := Aside0.mk (HC.out.but hT_q45 (by have := HXg7.out; have := HXg8.out; have := HXg9.out; have := HXg10.out; have := HXg11.out; have := HXg12.out; have := HXg13.out; have := HXg14.out; have := HXg15.out; have := HXg16.out; have := HXg7g8.out; have := HXg9g10.out; have := HXg11g12.out; have := HXg14g15.out; have := HG.out; omega))
  replace HP1 := Aside0.mk (HP1.out.but hT_q45 (by have := HXg7.out; have := HXg8.out; have := HXg9.out; have := HXg10.out; have := HXg11.out; have := HXg12.out; have := HXg13.out; have := HXg14.out; have := HXg15.out; have := HXg16.out; have := HXg7g8.out; have := HXg9g10.out; have := HXg11g12.out; have := HXg14g15.out; have := HG.out; omega))
  replace HP2 := Aside0.mk (HP2.out.but hT_q45 (by have := HXg7.out; have := HXg8.out; have := HXg9.out; have := HXg10.out; have := HXg11.out; have := HXg12.out; have := HXg13.out; have := HXg14.out; have := HXg15.out; have := HXg16.out; have := HXg7g8.out; have := HXg9g10.out; have := HXg11g12.out; have := HXg14g15.out; have := HG.out; omega))
  replace HR := Aside0.mk (HR.out.but hT_q45 (by have := HXg7.out; have := HXg8.out; have := HXg9.out; have := HXg10.out; have := HXg11.out; have := HXg12.out; have := HXg13.out; have := HXg14.out; have := HXg15.out; have := HXg16.out; have := HXg7g8.out; have := HXg9g10.out; have := HXg11g12.out; have := HXg14g15.out; have := HG.out; omega))
  replace Hg7 := Aside0.mk (Hg7.out.but hT_q45 (by have := HXg7.out; have := HXg8.out; have := HXg9.out; have := HXg10.out; have := HXg11.out; have := HXg12.out; have := HXg13.out; have := HXg14.out; have := HXg15.out; have := HXg16.out; have := HXg7g8.out; have := HXg9g10.out; have := HXg11g12.out; have := HXg14g15.out; have := HG.out; omega))
  replace Hg8 := Aside0.mk (Hg8.out.but hT_q45 (by have := HXg7.out; have := HXg8.out; have := HXg9.out; have := HXg10.out; have := HXg11.out; have := HXg12.out; have := HXg13.out; have := HXg14.out; have := HXg15.out; have := HXg16.out; have := HXg7g8.out; have := HXg9g10.out; have := HXg11g12.out; have := HXg14g15.out; have := HG.out; omega))
  replace Hg9 := Aside0.mk (Hg9.out.but hT_q45 (by have := HXg7.out; have := HXg8.out; have := HXg9.out; have := HXg10.out; have := HXg11.out; have := HXg12.out; have := HXg13.out; have := HXg14.out; have := HXg15.out; have := HXg16.out; have := HXg7g8.out; have := HXg9g10.out; have := HXg11g12.out; have := HXg14g15.out; have := HG.out; omega))
  replace Hg10 := Aside0.mk (Hg10.out.but hT_q45 (by have := HXg7.out; have := HXg8.out; have := HXg9.out; have := HXg10.out; have := HXg11.out; have := HXg12.out; have := HXg13.out; have := HXg14.out; have := HXg15.out; have := HXg16.out; have := HXg7g8.out; have := HXg9g10.out; have := HXg11g12.out; have := HXg14g15.out; have := HG.out; omega))
  replace Hg11 := Aside0.mk (Hg11.out.but hT_q45 (by have := HXg7.out; have := HXg8.out; have := HXg9.out; have := HXg10.out; have := HXg11.out; have := HXg12.out; have := HXg13.out; have := HXg14.out; have := HXg15.out; have := HXg16.out; have := HXg7g8.out; have := HXg9g10.out; have := HXg11g12.out; have := HXg14g15.out; have := HG.out; omega))
  replace Hg12 := Aside0.mk (Hg12.out.but hT_q45 (by have := HXg7.out; have := HXg8.out; have := HXg9.out; have := HXg10.out; have := HXg11.out; have := HXg12.out; have := HXg13.out; have := HXg14.out; have := HXg15.out; have := HXg16.out; have := HXg7g8.out; have := HXg9g10.out; have := HXg11g12.out; have := HXg14g15.out; have := HG.out; omega))
  replace Hg13 := Aside0.mk (Hg13.out.but hT_q45 (by have := HXg7.out; have := HXg8.out; have := HXg9.out; have := HXg10.out; have := HXg11.out; have := HXg12.out; have := HXg13.out; have := HXg14.out; have := HXg15.out; have := HXg16.out; have := HXg7g8.out; have := HXg9g10.out; have := HXg11g12.out; have := HXg14g15.out; have := HG.out; omega))
  replace Hg14 := Aside0.mk (Hg14.out.but hT_q45 (by have := HXg7.out; have := HXg8.out; have := HXg9.out; have := HXg10.out; have := HXg11.out; have := HXg12.out; have := HXg13.out; have := HXg14.out; have := HXg15.out; have := HXg16.out; have := HXg7g8.out; have := HXg9g10.out; have := HXg11g12.out; have := HXg14g15.out; have := HG.out; omega))
  replace Hg15 := Aside0.mk (Hg15.out.but hT_q45 (by have := HXg7.out; have := HXg8.out; have := HXg9.out; have := HXg10.out; have := HXg11.out; have := HXg12.out; have := HXg13.out; have := HXg14.out; have := HXg15.out; have := HXg16.out; have := HXg7g8.out; have := HXg9g10.out; have := HXg11g12.out; have := HXg14g15.out; have := HG.out; omega))
  replace HF := Aside0.mk (HF.out.but hT_q45 (by have := HXg7.out; have := HXg8.out; have := HXg9.out; have := HXg10.out; have := HXg11.out; have := HXg12.out; have := HXg13.out; have := HXg14.out; have := HXg15.out; have := HXg16.out; have := HXg7g8.out; have := HXg9g10.out; have := HXg11g12.out; have := HXg14g15.out; have := HG.out; omega))
  have Hg16 := Aside0.mk hA_q45
  replace HB := Aside0.mk (bl_but HB.out hT_q45 HB.out.size (by have := HXg7.out; have := HXg8.out; have := HXg9.out; have := HXg10.out; have := HXg11.out; have := HXg12.out; have := HXg13.out; have := HXg14.out; have := HXg15.out; have := HXg16.out; have := HXg7g8.out; have := HXg9g10.out; have := HXg11g12.out; have := HXg14g15.out; have := HG.out; omega))
  replace HS := Aside0.mk (Nat.le_trans HS.out hT_q45.size)
  clear hA_q45 hT_q45 hzg16 hsg16 hHeld
  go_wp2
  refine start_ (n := 19) (S := fun w' => Below q45.heap.size q45 w' ∧ w'.cell? ⟨w.heap.size, 2, none⟩ = some (mthV 52 gf) ∧ w'.cell? ⟨w.heap.size, 3, none⟩ = some (mthV 53 gf)) (ds := [18]) (bs 19 0) (by kernel_rfl) rfl rfl ⟨(Below.refl _ _).drew, HC.out.c2, HC.out.c3⟩ (fun hHeld => ?_)
  refine pu_ 0 121 (bs 19 1) ?_ ?_ ?_ ?_ ?_
  rotate_left
  ·intro w'
   go_simp
   with_reducible rfl
  rotate_left
  ·simp only [aS, i64_w, i32_w]
   rfl
  refine pu_ 2 123 (bs 19 5) ?_ ?_ ?_ ?_ ?_
  rotate_left
  ·intro w'
   go_simp
   with_reducible rfl
  rotate_left
  ·simp only [aS, i64_w, i32_w]
   rfl
  refine pu_ 5 126 (bs 19 37) ?_ ?_ ?_ ?_ ?_
  rotate_left
  ·intro w'
   go_simp
   with_reducible rfl
  rotate_left
  ·simp only [aS, i64_w, i32_w]
   rfl
  refine pu_ 11 132 (bs 19 2085) ?_ ?_ ?_ ?_ ?_
  rotate_left
  ·intro w'
   go_simp
   with_reducible rfl
  rotate_left
  ·simp only [aS, i64_w, i32_w]
   rfl
  refine tk_ 1 122 (bs 19 2087) ?_ ?_ hHeld ?_ ?_ ?_
  rotate_left
  ·rintro w' ⟨s0, s1, s2⟩
   go_simp
   with_reducible rfl
  rotate_left
  ·simp only [aS, i64_w, i32_w]
   rfl
  refine tk_ 3 124 (bs 19 2095) ?_ ?_ hHeld ?_ ?_ ?_
  rotate_left
  ·rintro w' ⟨s0, s1, s2⟩
   go_simp
   with_reducible rfl
  rotate_left
  ·simp only [aS, i64_w, i32_w]
   rfl
  refine take_ (i := 4) (N := some 125) (a' := ?_) (bs 19 2111) rfl rfl (by kernel_rfl) (fun _ _ _ h => h) (yields_num (g := g12) (o := 0) (n := t10) (by rfl) (.tmp 12) rfl rfl (fun w' hS => (Hg12.out.on hS.1).range)) hHeld ?_ ?_
  rotate_left
  ·simp only [aS, i64_w, i32_w]
   rfl
  refine tk_ 6 127 (bs 19 2175) ?_ ?_ hHeld ?_ ?_ ?_
  rotate_left
  ·rintro w' ⟨s0, s1, s2⟩
   go_simp
   with_reducible rfl
  rotate_left
  ·simp only [aS, i64_w, i32_w]
   rfl
  refine take_ (i := 7) (N := some 128) (a' := ?_) (bs 19 2303) rfl rfl (by kernel_rfl) (fun _ _ _ h => h) (yields_num (g := g15) (o := 0) (n := t13) (by rfl) (.tmp 15) rfl rfl (fun w' hS => (Hg15.out.on hS.1).range)) hHeld ?_ ?_
  rotate_left
  ·simp only [aS, i64_w, i32_w]
   rfl
  refine take_ (i := 8) (N := some 129) (a' := ?_) (bs 19 2559) rfl rfl (by kernel_rfl) (fun _ _ _ h => h) (yields_num (g := g16) (o := 0) (n := t17) (by rfl) (.tmp 16) rfl rfl (fun w' hS => (Hg16.out.on hS.1).range)) hHeld ?_ ?_
  rotate_left
  ·simp only [aS, i64_w, i32_w]
   rfl
  refine tk_ 12 133 (bs 19 6655) ?_ ?_ hHeld ?_ ?_ ?_
  rotate_left
  ·rintro w' ⟨s0, s1, s2⟩
   go_simp
   with_reducible rfl
  rotate_left
  ·simp only [aS, i64_w, i32_w]
   rfl
  refine take_ (i := 13) (N := some 134) (a' := ?_) (bs 19 14847) rfl rfl (by kernel_rfl) (fun _ _ _ h => h) (yields_num (g := g11) (o := 0) (n := t6) (by rfl) (.tmp 11) rfl rfl (fun w' hS => (Hg11.out.on hS.1).range)) hHeld ?_ ?_
  rotate_left
  ·simp only [aS, i64_w, i32_w]
   rfl
  refine take_ (i := 14) (N := some 135) (a' := ?_) (bs 19 31231) rfl rfl (by kernel_rfl) (fun _ _ _ h => h) (yields_num (g := g14) (o := 0) (n := t12) (by rfl) (.tmp 14) rfl rfl (fun w' hS => (Hg14.out.on hS.1).range)) hHeld ?_ ?_
  rotate_left
  ·simp only [aS, i64_w, i32_w]
   rfl
  refine join_ (σ := Nat) 1 (bs 19 262143) (fun s => [(17, .pointer (some ⟨s, 0, none⟩)), (130, numV t18), (131, numV t19), (136, numV t20), (137, numV t21)]) (fun s w' => Below q45.heap.size q45 w' ∧ NAt w' s 0 ∧ q45.heap.size ≤ s) ?_ ?_
  rotate_left
  ·intro hCont
   refine tw_ 9 17 (some 130) (some 17) (bs 19 31743) (bs 19 162303) rfl rfl (fun K hK => ?_) (fun K hK => ?_)
   ·skip
    refine gF_ Try.func52 gf (numV t13) (numV t17) rfl ?_
    with_reducible refine (K21.out _ (HF.out.on hHeld.1)).mono ?_
    rintro e u46 ⟨rfl, hb_u46⟩
    refine ⟨_, rfl, ?_⟩
    have hq_u46 := bl_on hHeld.1 hb_u46 hHeld.1.size
    refine hK.out _ _ ⟨hq_u46, (HC.out.on (hq_u46)).c2, (HC.out.on (hq_u46)).c3⟩ (fun hHeld => ?_)
    clear hK K
    refine nm_ (some 130) ?_
    refine tw_ 10 17 (some 131) (some 17) (bs 19 32767) (bs 19 162815) rfl rfl (fun K hK => ?_) (fun K hK => ?_)
    ·skip
     refine gF_ Try.func53 gf (numV t10) (numV t18) rfl ?_
     with_reducible refine (K22.out _ (HF.out.on hHeld.1)).mono ?_
     rintro e u47 ⟨rfl, hb_u47⟩
     refine ⟨_, rfl, ?_⟩
     have hq_u47 := bl_on hHeld.1 hb_u47 hHeld.1.size
     refine hK.out _ _ ⟨hq_u47, (HC.out.on (hq_u47)).c2, (HC.out.on (hq_u47)).c3⟩ (fun hHeld => ?_)
     clear hK K
     refine nm_ (some 131) ?_
     refine tw_ 15 17 (some 136) (some 17) (bs 19 65535) (bs 19 163839) rfl rfl (fun K hK => ?_) (fun K hK => ?_)
     ·skip
      refine gF_ Try.func53 gf (numV t6) (numV t12) rfl ?_
      with_reducible refine (K23.out _ (HF.out.on hHeld.1)).mono ?_
      rintro e u48 ⟨rfl, hb_u48⟩
      refine ⟨_, rfl, ?_⟩
      have hq_u48 := bl_on hHeld.1 hb_u48 hHeld.1.size
      refine hK.out _ _ ⟨hq_u48, (HC.out.on (hq_u48)).c2, (HC.out.on (hq_u48)).c3⟩ (fun hHeld => ?_)
      clear hK K
      refine nm_ (some 136) ?_
      refine tw_ 16 17 (some 137) (some 17) (bs 19 131071) (bs 19 196607) rfl rfl (fun K hK => ?_) (fun K hK => ?_)
      ·skip
       refine gF_ Try.func52 gf (numV t19) (numV t20) rfl ?_
       with_reducible refine (K24.out _ (HF.out.on hHeld.1)).mono ?_
       rintro e u49 ⟨rfl, hb_u49⟩
       refine ⟨_, rfl, ?_⟩
       have hq_u49 := bl_on hHeld.1 hb_u49 hHeld.1.size
       refine hK.out _ _ ⟨hq_u49, (HC.out.on (hq_u49)).c2, (HC.out.on (hq_u49)).c3⟩ (fun hHeld => ?_)
       clear hK K
       refine nm_ (some 137) ?_
       refine on1_ 17 (some 17) (bs 19 262143) rfl fun K hK => ?_
       refine value_ (w1 := ?_) (v := ?_) (by rfl) rfl ?_ ?_
       rotate_left 2
       ·go_simp
        constructor
        ·rfl
        ·rfl
       have hzg17 : NAt (World.alloc u49 (.cells (nw 0).toArray 24)) (u49.heap.size) 0 := by have h_ := Row.new u49 24 (nw 0); first | exact h_ | (simp only [alloc_sz] at h_; exact h_) | omega
       have hsg17 : q45.heap.size ≤ u49.heap.size := by have h_ := hHeld.1.size; first | exact h_ | (simp only [alloc_sz] at h_; exact h_) | omega
       refine hK.out _ _ ⟨below_alloc hHeld.1 _, (HC.out.on (below_alloc hHeld.1 _)).c2, (HC.out.on (below_alloc hHeld.1 _)).c3⟩ (fun hHeld => ?_)
       clear hK K
       refine nm_ (some 17) ?_
       exact norm_ (by simp only [putAll, aS]) (hCont (u49.heap.size) _ ⟨hHeld.1, hzg17, hsg17⟩)
      ·skip
       refine value_ (w1 := ?_) (v := ?_) (by rfl) rfl ?_ ?_
       rotate_left 2
       ·go_simp
        constructor
        ·rfl
        ·rfl
       have hzg17 : NAt (World.alloc u48 (.cells (nw 0).toArray 24)) (u48.heap.size) 0 := by have h_ := Row.new u48 24 (nw 0); first | exact h_ | (simp only [alloc_sz] at h_; exact h_) | omega
       have hsg17 : q45.heap.size ≤ u48.heap.size := by have h_ := hHeld.1.size; first | exact h_ | (simp only [alloc_sz] at h_; exact h_) | omega
       refine hK.out _ _ ⟨below_alloc hHeld.1 _, (HC.out.on (below_alloc hHeld.1 _)).c2, (HC.out.on (below_alloc hHeld.1 _)).c3⟩ (fun hHeld => ?_)
       clear hK K
       refine nm_ (some 17) ?_
       refine on1_ 16 (some 137) (bs 19 262143) rfl fun K hK => ?_
       refine gF_ Try.func52 gf (numV t19) (numV t20) rfl ?_
       with_reducible refine (K24.out _ (HF.out.on hHeld.1)).mono ?_
       rintro e u49 ⟨rfl, hb_u49⟩
       refine ⟨_, rfl, ?_⟩
       have hq_u49 := bl_on hHeld.1 hb_u49 hHeld.1.size
       replace hzg17 := hzg17.on hb_u49
       refine hK.out _ _ ⟨hq_u49, (HC.out.on (hq_u49)).c2, (HC.out.on (hq_u49)).c3⟩ (fun hHeld => ?_)
       clear hK K
       refine nm_ (some 137) ?_
       exact norm_ (by simp only [putAll, aS]) (hCont (u48.heap.size) _ ⟨hHeld.1, hzg17, hsg17⟩)
     ·skip
      refine value_ (w1 := ?_) (v := ?_) (by rfl) rfl ?_ ?_
      rotate_left 2
      ·go_simp
       constructor
       ·rfl
       ·rfl
      have hzg17 : NAt (World.alloc u47 (.cells (nw 0).toArray 24)) (u47.heap.size) 0 := by have h_ := Row.new u47 24 (nw 0); first | exact h_ | (simp only [alloc_sz] at h_; exact h_) | omega
      have hsg17 : q45.heap.size ≤ u47.heap.size := by have h_ := hHeld.1.size; first | exact h_ | (simp only [alloc_sz] at h_; exact h_) | omega
      refine hK.out _ _ ⟨below_alloc hHeld.1 _, (HC.out.on (below_alloc hHeld.1 _)).c2, (HC.out.on (below_alloc hHeld.1 _)).c3⟩ (fun hHeld => ?_)
      clear hK K
      refine nm_ (some 17) ?_
      refine on1_ 15 (some 136) (bs 19 196607) rfl fun K hK => ?_
      refine gF_ Try.func53 gf (numV t6) (numV t12) rfl ?_
      with_reducible refine (K23.out _ (HF.out.on hHeld.1)).mono ?_
      rintro e u48 ⟨rfl, hb_u48⟩
      refine ⟨_, rfl, ?_⟩
      have hq_u48 := bl_on hHeld.1 hb_u48 hHeld.1.size
      replace hzg17 := hzg17.on hb_u48
      refine hK.out _ _ ⟨hq_u48, (HC.out.on (hq_u48)).c2, (HC.out.on (hq_u48)).c3⟩ (fun hHeld => ?_)
      clear hK K
      refine nm_ (some 136) ?_
      refine on1_ 16 (some 137) (bs 19 262143) rfl fun K hK => ?_
      refine gF_ Try.func52 gf (numV t19) (numV t20) rfl ?_
      with_reducible refine (K24.out _ (HF.out.on hHeld.1)).mono ?_
      rintro e u49 ⟨rfl, hb_u49⟩
      refine ⟨_, rfl, ?_⟩
      have hq_u49 := bl_on hHeld.1 hb_u49 hHeld.1.size
      replace hzg17 := hzg17.on hb_u49
      refine hK.out _ _ ⟨hq_u49, (HC.out.on (hq_u49)).c2, (HC.out.on (hq_u49)).c3⟩ (fun hHeld => ?_)
      clear hK K
      refine nm_ (some 137) ?_
      exact norm_ (by simp only [putAll, aS]) (hCont (u47.heap.size) _ ⟨hHeld.1, hzg17, hsg17⟩)
    ·skip
     refine value_ (w1 := ?_) (v := ?_) (by rfl) rfl ?_ ?_
     rotate_left 2
     ·go_simp
      constructor
      ·rfl
      ·rfl
     have hzg17 : NAt (World.alloc u46 (.cells (nw 0).toArray 24)) (u46.heap.size) 0 := by have h_ := Row.new u46 24 (nw 0); first | exact h_ | (simp only [alloc_sz] at h_; exact h_) | omega
     have hsg17 : q45.heap.size ≤ u46.heap.size := by have h_ := hHeld.1.size; first | exact h_ | (simp only [alloc_sz] at h_; exact h_) | omega
     refine hK.out _ _ ⟨below_alloc hHeld.1 _, (HC.out.on (below_alloc hHeld.1 _)).c2, (HC.out.on (below_alloc hHeld.1 _)).c3⟩ (fun hHeld => ?_)
     clear hK K
     refine nm_ (some 17) ?_
     refine on1_ 10 (some 131) (bs 19 163839) rfl fun K hK => ?_
     refine gF_ Try.func53 gf (numV t10) (numV t18) rfl ?_
     with_reducible refine (K22.out _ (HF.out.on hHeld.1)).mono ?_
     rintro e u47 ⟨rfl, hb_u47⟩
     refine ⟨_, rfl, ?_⟩
     have hq_u47 := bl_on hHeld.1 hb_u47 hHeld.1.size
     replace hzg17 := hzg17.on hb_u47
     refine hK.out _ _ ⟨hq_u47, (HC.out.on (hq_u47)).c2, (HC.out.on (hq_u47)).c3⟩ (fun hHeld => ?_)
     clear hK K
     refine nm_ (some 131) ?_
     refine on1_ 15 (some 136) (bs 19 196607) rfl fun K hK => ?_
     refine gF_ Try.func53 gf (numV t6) (numV t12) rfl ?_
     with_reducible refine (K23.out _ (HF.out.on hHeld.1)).mono ?_
     rintro e u48 ⟨rfl, hb_u48⟩
     refine ⟨_, rfl, ?_⟩
     have hq_u48 := bl_on hHeld.1 hb_u48 hHeld.1.size
     replace hzg17 := hzg17.on hb_u48
     refine hK.out _ _ ⟨hq_u48, (HC.out.on (hq_u48)).c2, (HC.out.on (hq_u48)).c3⟩ (fun hHeld => ?_)
     clear hK K
     refine nm_ (some 136) ?_
     refine on1_ 16 (some 137) (bs 19 262143) rfl fun K hK => ?_
     refine gF_ Try.func52 gf (numV t19) (numV t20) rfl ?_
     with_reducible refine (K24.out _ (HF.out.on hHeld.1)).mono ?_
     rintro e u49 ⟨rfl, hb_u49⟩
     refine ⟨_, rfl, ?_⟩
     have hq_u49 := bl_on hHeld.1 hb_u49 hHeld.1.size
     replace hzg17 := hzg17.on hb_u49
     refine hK.out _ _ ⟨hq_u49, (HC.out.on (hq_u49)).c2, (HC.out.on (hq_u49)).c3⟩ (fun hHeld => ?_)
     clear hK K
     refine nm_ (some 137) ?_
     exact norm_ (by simp only [putAll, aS]) (hCont (u46.heap.size) _ ⟨hHeld.1, hzg17, hsg17⟩)
   ·skip
    refine value_ (w1 := ?_) (v := ?_) (by rfl) rfl ?_ ?_
    rotate_left 2
    ·go_simp
     constructor
     ·rfl
     ·rfl
    have hzg17 : NAt (World.alloc (World.drew q45) (.cells (nw 0).toArray 24)) (q45.heap.size) 0 := by have h_ := Row.new (World.drew q45) 24 (nw 0); first | exact h_ | (simp only [alloc_sz] at h_; exact h_) | omega
    have hsg17 : q45.heap.size ≤ q45.heap.size := by have h_ := hHeld.1.size; first | exact h_ | (simp only [alloc_sz] at h_; exact h_) | omega
    refine hK.out _ _ ⟨below_alloc hHeld.1 _, (HC.out.on (below_alloc hHeld.1 _)).c2, (HC.out.on (below_alloc hHeld.1 _)).c3⟩ (fun hHeld => ?_)
    clear hK K
    refine nm_ (some 17) ?_
    refine on1_ 9 (some 130) (bs 19 162815) rfl fun K hK => ?_
    refine gF_ Try.func52 gf (numV t13) (numV t17) rfl ?_
    with_reducible refine (K21.out _ (HF.out.on hHeld.1)).mono ?_
    rintro e u46 ⟨rfl, hb_u46⟩
    refine ⟨_, rfl, ?_⟩
    have hq_u46 := bl_on hHeld.1 hb_u46 hHeld.1.size
    replace hzg17 := hzg17.on hb_u46
    refine hK.out _ _ ⟨hq_u46, (HC.out.on (hq_u46)).c2, (HC.out.on (hq_u46)).c3⟩ (fun hHeld => ?_)
    clear hK K
    refine nm_ (some 130) ?_
    refine on1_ 10 (some 131) (bs 19 163839) rfl fun K hK => ?_
    refine gF_ Try.func53 gf (numV t10) (numV t18) rfl ?_
    with_reducible refine (K22.out _ (HF.out.on hHeld.1)).mono ?_
    rintro e u47 ⟨rfl, hb_u47⟩
    refine ⟨_, rfl, ?_⟩
    have hq_u47 := bl_on hHeld.1 hb_u47 hHeld.1.size
    replace hzg17 := hzg17.on hb_u47
    refine hK.out _ _ ⟨hq_u47, (HC.out.on (hq_u47)).c2, (HC.out.on (hq_u47)).c3⟩ (fun hHeld => ?_)
    clear hK K
    refine nm_ (some 131) ?_
    refine on1_ 15 (some 136) (bs 19 196607) rfl fun K hK => ?_
    refine gF_ Try.func53 gf (numV t6) (numV t12) rfl ?_
    with_reducible refine (K23.out _ (HF.out.on hHeld.1)).mono ?_
    rintro e u48 ⟨rfl, hb_u48⟩
    refine ⟨_, rfl, ?_⟩
    have hq_u48 := bl_on hHeld.1 hb_u48 hHeld.1.size
    replace hzg17 := hzg17.on hb_u48
    refine hK.out _ _ ⟨hq_u48, (HC.out.on (hq_u48)).c2, (HC.out.on (hq_u48)).c3⟩ (fun hHeld => ?_)
    clear hK K
    refine nm_ (some 136) ?_
    refine on1_ 16 (some 137) (bs 19 262143) rfl fun K hK => ?_
    refine gF_ Try.func52 gf (numV t19) (numV t20) rfl ?_
    with_reducible refine (K24.out _ (HF.out.on hHeld.1)).mono ?_
    rintro e u49 ⟨rfl, hb_u49⟩
    refine ⟨_, rfl, ?_⟩
    have hq_u49 := bl_on hHeld.1 hb_u49 hHeld.1.size
    replace hzg17 := hzg17.on hb_u49
    refine hK.out _ _ ⟨hq_u49, (HC.out.on (hq_u49)).c2, (HC.out.on (hq_u49)).c3⟩ (fun hHeld => ?_)
    clear hK K
    refine nm_ (some 137) ?_
    exact norm_ (by simp only [putAll, aS]) (hCont (q45.heap.size) _ ⟨hHeld.1, hzg17, hsg17⟩)
  rintro g17 v50 ⟨hHeld0, hzg17, hsg17⟩
  have hHeld : Below q45.heap.size q45 v50 ∧ v50.cell? ⟨w.heap.size, 2, none⟩ = some (mthV 52 gf) ∧ v50.cell? ⟨w.heap.size, 3, none⟩ = some (mthV 53 gf) := ⟨hHeld0, (HC.out.on (hHeld0)).c2, (HC.out.on (hHeld0)).c3⟩
  clear hHeld0
  refine norm_ (a' := ?_) ?_ ?_
  rotate_left
  ·simp only [putAll, aS]
   rfl
  refine last_ (i := 18) (N := none) (bs 19 524287) rfl rfl (by kernel_rfl) (by decide) (fun K hK => ?_)
  refine skip_num (hzg17) (by rfl) rfl (.tmp 17) (.tmp 137) rfl rfl rfl ?_
  intro q51 hA_q51 hT_q51
  refine hK.out _ _ ?_
  clear hK K
  refine done_ (by kernel_rfl) ?_
  have HXg17 : Aside0 (w.heap.size + 1 + 1 + 1 + 1 ≤ g17 ∧ g7 < g17 ∧ g8 < g17 ∧ g9 < g17 ∧ g10 < g17 ∧ g11 < g17 ∧ g12 < g17 ∧ g13 < g17 ∧ g14 < g17 ∧ g15 < g17 ∧ g16 < g17) := Aside0.mk (⟨Nat.le_trans HS.out hsg17, Nat.lt_of_lt_of_le Hg7.out.size hsg17, Nat.lt_of_lt_of_le Hg8.out.size hsg17, Nat.lt_of_lt_of_le Hg9.out.size hsg17, Nat.lt_of_lt_of_le Hg10.out.size hsg17, Nat.lt_of_lt_of_le Hg11.out.size hsg17, Nat.lt_of_lt_of_le Hg12.out.size hsg17, Nat.lt_of_lt_of_le Hg13.out.size hsg17, Nat.lt_of_lt_of_le Hg14.out.size hsg17, Nat.lt_of_lt_of_le Hg15.out.size hsg17, Nat.lt_of_lt_of_le Hg16.out.size hsg17⟩)
  replace HC := Aside0.mk (HC.out.on hHeld.1)
  replace HP1 := Aside0.mk (HP1.out.on hHeld.1)
  replace HP2 := Aside0.mk (HP2.out.on hHeld.1)
  replace HR := Aside0.mk (HR.out.on hHeld.1)
  replace Hg7 := Aside0.mk (Hg7.out.on hHeld.1)
  replace Hg8 := Aside0.mk (Hg8.out.on hHeld.1)
  replace Hg9 := Aside0.mk (Hg9.out.on hHeld.1)
  replace Hg10 := Aside0.mk (Hg10.out.on hHeld.1)
  replace Hg11 := Aside0.mk (Hg11.out.on hHeld.1)
  replace Hg12 := Aside0.mk (Hg12.out.on hHeld.1)
  replace Hg13 := Aside0.mk (Hg13.out.on hHeld.1)
  replace Hg14 := Aside0.mk (Hg14.out.on hHeld.1)
  replace Hg15 := Aside0.mk (Hg15.out.on hHeld.1)
  replace Hg16 := Aside0.mk (Hg16.out.on hHeld.1)
  replace HF := Aside0.mk (HF.out.on hHeld.1)
  replace HB := Aside0.mk (bl_on HB.out hHeld.1 HB.out.size)
  replace HS := Aside0.mk (Nat.le_trans HS.out hHeld.1.size)
  replace HC := Aside0.mk (HC.out.but hT_q51 (by have := HXg7.out; have := HXg8.out; have := HXg9.out; have := HXg10.out; have := HXg11.out; have := HXg12.out; have := HXg13.out; have := HXg14.out; have := HXg15.out; have := HXg16.out; have := HXg17.out; have := HXg7g8.out; have := HXg9g10.out; have := HXg11g12.out; have := HXg14g15.out; have := HG.out; omega))
  replace HP1 := Aside0.mk (HP1.out.but hT_q51 (by have := HXg7.out; have := HXg8.out; have := HXg9.out; have := HXg10.out; have := HXg11.out; have := HXg12.out; have := HXg13.out; have := HXg14.out; have := HXg15.out; have := HXg16.out; have := HXg17.out; have := HXg7g8.out; have := HXg9g10.out; have := HXg11g12.out; have := HXg14g15.out; have := HG.out; omega))
  replace HP2 := Aside0.mk (HP2.out.but hT_q51 (by have := HXg7.out; have := HXg8.out; have := HXg9.out; have := HXg10.out; have := HXg11.out; have := HXg12.out; have := HXg13.out; have := HXg14.out; have := HXg15.out; have := HXg16.out; have := HXg17.out; have := HXg7g8.out; have := HXg9g10.out; have := HXg11g12.out; have := HXg14g15.out; have := HG.out; omega))
  replace HR := Aside0.mk (HR.out.but hT_q51 (by have := HXg7.out; have := HXg8.out; have := HXg9.out; have := HXg10.out; have := HXg11.out; have := HXg12.out; have := HXg13.out; have := HXg14.out; have := HXg15.out; have := HXg16.out; have := HXg17.out; have := HXg7g8.out; have := HXg9g10.out; have := HXg11g12.out; have := HXg14g15.out; have := HG.out; omega))
  replace Hg7 := Aside0.mk (Hg7.out.but hT_q51 (by have := HXg7.out; have := HXg8.out; have := HXg9.out; have := HXg10.out; have := HXg11.out; have := HXg12.out; have := HXg13.out; have := HXg14.out; have := HXg15.out; have := HXg16.out; have := HXg17.out; have := HXg7g8.out; have := HXg9g10.out; have := HXg11g12.out; have := HXg14g15.out; have := HG.out; omega))
  replace Hg8 := Aside0.mk (Hg8.out.but hT_q51 (by have := HXg7.out; have := HXg8.out; have := HXg9.out; have := HXg10.out; have := HXg11.out; have := HXg12.out; have := HXg13.out; have := HXg14.out; have := HXg15.out; have := HXg16.out; have := HXg17.out; have := HXg7g8.out; have := HXg9g10.out; have := HXg11g12.out; have := HXg14g15.out; have := HG.out; omega))
  replace Hg9 := Aside0.mk (Hg9.out.but hT_q51 (by have := HXg7.out; have := HXg8.out; have := HXg9.out; have := HXg10.out; have := HXg11.out; have := HXg12.out; have := HXg13.out; have := HXg14.out; have := HXg15.out; have := HXg16.out; have := HXg17.out; have := HXg7g8.out; have := HXg9g10.out; have := HXg11g12.out; have := HXg14g15.out; have := HG.out; omega))
  replace Hg10 := Aside0.mk (Hg10.out.but hT_q51 (by have := HXg7.out; have := HXg8.out; have := HXg9.out; have := HXg10.out; have := HXg11.out; have := HXg12.out; have := HXg13.out; have := HXg14.out; have := HXg15.out; have := HXg16.out; have := HXg17.out; have := HXg7g8.out; have := HXg9g10.out; have := HXg11g12.out; have := HXg14g15.out; have := HG.out; omega))
  replace Hg11 := Aside0.mk (Hg11.out.but hT_q51 (by have := HXg7.out; have := HXg8.out; have := HXg9.out; have := HXg10.out; have := HXg11.out; have := HXg12.out; have := HXg13.out; have := HXg14.out; have := HXg15.out; have := HXg16.out; have := HXg17.out; have := HXg7g8.out; have := HXg9g10.out; have := HXg11g12.out; have := HXg14g15.out; have := HG.out; omega))
  replace Hg12 := Aside0.mk (Hg12.out.but hT_q51 (by have := HXg7.out; have := HXg8.out; have := HXg9.out; have := HXg10.out; have := HXg11.out; have := HXg12.out; have := HXg13.out; have := HXg14.out; have := HXg15.out; have := HXg16.out; have := HXg17.out; have := HXg7g8.out; have := HXg9g10.out; have := HXg11g12.out; have := HXg14g15.out; have := HG.out; omega))
  replace Hg13 := Aside0.mk (Hg13.out.but hT_q51 (by have := HXg7.out; have := HXg8.out; have := HXg9.out; have := HXg10.out; have := HXg11.out; have := HXg12.out; have := HXg13.out; have := HXg14.out; have := HXg15.out; have := HXg16.out; have := HXg17.out; have := HXg7g8.out; have := HXg9g10.out; have := HXg11g12.out; have := HXg14g15.out; have := HG.out; omega))
  replace Hg14 := Aside0.mk (Hg14.out.but hT_q51 (by have := HXg7.out; have := HXg8.out; have := HXg9.out; have := HXg10.out; have := HXg11.out; have := HXg12.out; have := HXg13.out; have := HXg14.out; have := HXg15.out; have := HXg16.out; have := HXg17.out; have := HXg7g8.out; have := HXg9g10.out; have := HXg11g12.out; have := HXg14g15.out; have := HG.out; omega))
  replace Hg15 := Aside0.mk (Hg15.out.but hT_q51 (by have := HXg7.out; have := HXg8.out; have := HXg9.out; have := HXg10.out; have := HXg11.out; have := HXg12.out; have := HXg13.out; have := HXg14.out; have := HXg15.out; have := HXg16.out; have := HXg17.out; have := HXg7g8.out; have := HXg9g10.out; have := HXg11g12.out; have := HXg14g15.out; have := HG.out; omega))
  replace Hg16 := Aside0.mk (Hg16.out.but hT_q51 (by have := HXg7.out; have := HXg8.out; have := HXg9.out; have := HXg10.out; have := HXg11.out; have := HXg12.out; have := HXg13.out; have := HXg14.out; have := HXg15.out; have := HXg16.out; have := HXg17.out; have := HXg7g8.out; have := HXg9g10.out; have := HXg11g12.out; have := HXg14g15.out; have := HG.out; omega))
  replace HF := Aside0.mk (HF.out.but hT_q51 (by have := HXg7.out; have := HXg8.out; have := HXg9.out; have := HXg10.out; have := HXg11.out; have := HXg12.out; have := HXg13.out; have := HXg14.out; have := HXg15.out; have := HXg16.out; have := HXg17.out; have := HXg7g8.out; have := HXg9g10.out; have := HXg11g12.out; have := HXg14g15.out; have := HG.out; omega))
  have Hg17 := Aside0.mk hA_q51
  replace HB := Aside0.mk (bl_but HB.out hT_q51 HB.out.size (by have := HXg7.out; have := HXg8.out; have := HXg9.out; have := HXg10.out; have := HXg11.out; have := HXg12.out; have := HXg13.out; have := HXg14.out; have := HXg15.out; have := HXg16.out; have := HXg17.out; have := HXg7g8.out; have := HXg9g10.out; have := HXg11g12.out; have := HXg14g15.out; have := HG.out; omega))
  replace HS := Aside0.mk (Nat.le_trans HS.out hT_q51.size)
  clear hA_q51 hT_q51 hzg17 hsg17 hHeld
  go_wp2
  refine start_ (n := 15) (S := fun w' => Below q51.heap.size q51 w' ∧ w'.cell? ⟨w.heap.size, 3, none⟩ = some (mthV 53 gf)) (ds := [14]) (bs 15 0) (by kernel_rfl) rfl rfl ⟨(Below.refl _ _).drew, HC.out.c3⟩ (fun hHeld => ?_)
  refine pu_ 2 140 (bs 15 4) ?_ ?_ ?_ ?_ ?_
  rotate_left
  ·intro w'
   go_simp
   with_reducible rfl
  rotate_left
  ·simp only [aS, i64_w, i32_w]
   rfl
  refine pu_ 5 143 (bs 15 36) ?_ ?_ ?_ ?_ ?_
  rotate_left
  ·intro w'
   go_simp
   with_reducible rfl
  rotate_left
  ·simp only [aS, i64_w, i32_w]
   rfl
  refine pu_ 7 145 (bs 15 164) ?_ ?_ ?_ ?_ ?_
  rotate_left
  ·intro w'
   go_simp
   with_reducible rfl
  rotate_left
  ·simp only [aS, i64_w, i32_w]
   rfl
  refine pu_ 9 147 (bs 15 676) ?_ ?_ ?_ ?_ ?_
  rotate_left
  ·intro w'
   go_simp
   with_reducible rfl
  rotate_left
  ·simp only [aS, i64_w, i32_w]
   rfl
  refine take_ (i := 0) (N := some 138) (a' := ?_) (bs 15 677) rfl rfl (by kernel_rfl) (fun _ _ _ h => h) (yields_num (g := g16) (o := 0) (n := t17) (by rfl) (.tmp 16) rfl rfl (fun w' hS => (Hg16.out.on hS.1).range)) hHeld ?_ ?_
  rotate_left
  ·simp only [aS, i64_w, i32_w]
   rfl
  refine take_ (i := 1) (N := some 139) (a' := ?_) (bs 15 679) rfl rfl (by kernel_rfl) (fun _ _ _ h => h) (yields_num (g := g17) (o := 0) (n := t21) (by rfl) (.tmp 17) rfl rfl (fun w' hS => (Hg17.out.on hS.1).range)) hHeld ?_ ?_
  rotate_left
  ·simp only [aS, i64_w, i32_w]
   rfl
  refine tk_ 3 141 (bs 15 687) ?_ ?_ hHeld ?_ ?_ ?_
  rotate_left
  ·rintro w' ⟨s0, s1⟩
   go_simp
   with_reducible rfl
  rotate_left
  ·simp only [aS, i64_w, i32_w]
   rfl
  refine take_ (i := 4) (N := some 142) (a' := ?_) (bs 15 703) rfl rfl (by kernel_rfl) (fun _ _ _ h => h) (yields_num (g := g10) (o := 0) (n := t9) (by rfl) (.tmp 10) rfl rfl (fun w' hS => (Hg10.out.on hS.1).range)) hHeld ?_ ?_
  rotate_left
  ·simp only [aS, i64_w, i32_w]
   rfl
  refine tk_ 6 144 (bs 15 767) ?_ ?_ hHeld ?_ ?_ ?_
  rotate_left
  ·rintro w' ⟨s0, s1⟩
   go_simp
   with_reducible rfl
  rotate_left
  ·simp only [aS, i64_w, i32_w]
   rfl
  refine take_ (i := 8) (N := some 146) (a' := ?_) (bs 15 1023) rfl rfl (by kernel_rfl) (fun _ _ _ h => h) (yields_num (g := w.heap.size + 1) (o := 8) (n := z1) (by rfl) (.tmp 145) rfl rfl (fun w' hS => (HP1.out.on hS.1).rz)) hHeld ?_ ?_
  rotate_left
  ·simp only [aS, i64_w, i32_w]
   rfl
  refine take_ (i := 10) (N := some 148) (a' := ?_) (bs 15 2047) rfl rfl (by kernel_rfl) (fun _ _ _ h => h) (yields_num (g := w.heap.size + 1 + 1) (o := 8) (n := z2) (by rfl) (.tmp 147) rfl rfl (fun w' hS => (HP2.out.on hS.1).rz)) hHeld ?_ ?_
  rotate_left
  ·simp only [aS, i64_w, i32_w]
   rfl
  refine on1_ 11 (some 149) (bs 15 4095) rfl fun K hK => ?_
  refine gF_ Try.func53 gf (numV z1) (numV z2) rfl ?_
  with_reducible refine (K25.out _ (HF.out.on hHeld.1)).mono ?_
  rintro e u52 ⟨rfl, hb_u52⟩
  refine ⟨_, rfl, ?_⟩
  have hq_u52 := bl_on hHeld.1 hb_u52 hHeld.1.size
  refine hK.out _ _ ⟨hq_u52, (HC.out.on (hq_u52)).c3⟩ (fun hHeld => ?_)
  clear hK K
  refine nm_ (some 149) ?_
  refine on1_ 12 (some 150) (bs 15 8191) rfl fun K hK => ?_
  refine gF_ Try.func53 gf (numV t9) (numV t22) rfl ?_
  with_reducible refine (K26.out _ (HF.out.on hHeld.1)).mono ?_
  rintro e u53 ⟨rfl, hb_u53⟩
  refine ⟨_, rfl, ?_⟩
  have hq_u53 := bl_on hHeld.1 hb_u53 hHeld.1.size
  refine hK.out _ _ ⟨hq_u53, (HC.out.on (hq_u53)).c3⟩ (fun hHeld => ?_)
  clear hK K
  refine nm_ (some 150) ?_
  refine on1_ 13 (some 151) (bs 15 16383) rfl fun K hK => ?_
  refine value_ (w1 := _) (v := thV t17 t21 t23) (by rfl) rfl (rb_th _ (.tmp 138) (.tmp 139) (.tmp 150) rfl rfl rfl rfl) ?_
  refine hK.out _ _ ⟨hHeld.1, hHeld.2⟩ (fun hHeld => ?_)
  clear hK K
  refine nm_ (some 151) ?_
  refine last_ (i := 14) (N := none) (bs 15 32767) rfl rfl (by kernel_rfl) (by decide) (fun K hK => ?_)
  refine skip_th (x := t17) (y := t21) (z := t23) (HR.out.on hHeld.1) (by rfl) rfl (.tmp 6) (.tmp 151) rfl rfl rfl ?_
  intro q54 hA_q54 hT_q54
  refine hK.out _ _ ?_
  clear hK K
  refine done_ (by kernel_rfl) ?_
  replace HC := Aside0.mk (HC.out.on hHeld.1)
  replace HP1 := Aside0.mk (HP1.out.on hHeld.1)
  replace HP2 := Aside0.mk (HP2.out.on hHeld.1)
  replace HR := Aside0.mk (HR.out.on hHeld.1)
  replace Hg7 := Aside0.mk (Hg7.out.on hHeld.1)
  replace Hg8 := Aside0.mk (Hg8.out.on hHeld.1)
  replace Hg9 := Aside0.mk (Hg9.out.on hHeld.1)
  replace Hg10 := Aside0.mk (Hg10.out.on hHeld.1)
  replace Hg11 := Aside0.mk (Hg11.out.on hHeld.1)
  replace Hg12 := Aside0.mk (Hg12.out.on hHeld.1)
  replace Hg13 := Aside0.mk (Hg13.out.on hHeld.1)
  replace Hg14 := Aside0.mk (Hg14.out.on hHeld.1)
  replace Hg15 := Aside0.mk (Hg15.out.on hHeld.1)
  replace Hg16 := Aside0.mk (Hg16.out.on hHeld.1)
  replace Hg17 := Aside0.mk (Hg17.out.on hHeld.1)
  replace HF := Aside0.mk (HF.out.on hHeld.1)
  replace HB := Aside0.mk (bl_on HB.out hHeld.1 HB.out.size)
  replace HS := Aside0.mk (Nat.le_trans HS.out hHeld.1.size)
  replace HC := Aside0.mk (HC.out.but hT_q54 (by have := HXg7.out; have := HXg8.out; have := HXg9.out; have := HXg10.out; have := HXg11.out; have := HXg12.out; have := HXg13.out; have := HXg14.out; have := HXg15.out; have := HXg16.out; have := HXg17.out; have := HXg7g8.out; have := HXg9g10.out; have := HXg11g12.out; have := HXg14g15.out; have := HG.out; omega))
  replace HP1 := Aside0.mk (HP1.out.but hT_q54 (by have := HXg7.out; have := HXg8.out; have := HXg9.out; have := HXg10.out; have := HXg11.out; have := HXg12.out; have := HXg13.out; have := HXg14.out; have := HXg15.out; have := HXg16.out; have := HXg17.out; have := HXg7g8.out; have := HXg9g10.out; have := HXg11g12.out; have := HXg14g15.out; have := HG.out; omega))
  replace HP2 := Aside0.mk (HP2.out.but hT_q54 (by have := HXg7.out; have := HXg8.out; have := HXg9.out; have := HXg10.out; have := HXg11.out; have := HXg12.out; have := HXg13.out; have := HXg14.out; have := HXg15.out; have := HXg16.out; have := HXg17.out; have := HXg7g8.out; have := HXg9g10.out; have := HXg11g12.out; have := HXg14g15.out; have := HG.out; omega))
  replace Hg7 := Aside0.mk (Hg7.out.but hT_q54 (by have := HXg7.out; have := HXg8.out; have := HXg9.out; have := HXg10.out; have := HXg11.out; have := HXg12.out; have := HXg13.out; have := HXg14.out; have := HXg15.out; have := HXg16.out; have := HXg17.out; have := HXg7g8.out; have := HXg9g10.out; have := HXg11g12.out; have := HXg14g15.out; have := HG.out; omega))
  replace Hg8 := Aside0.mk (Hg8.out.but hT_q54 (by have := HXg7.out; have := HXg8.out; have := HXg9.out; have := HXg10.out; have := HXg11.out; have := HXg12.out; have := HXg13.out; have := HXg14.out; have := HXg15.out; have := HXg16.out; have := HXg17.out; have := HXg7g8.out; have := HXg9g10.out; have := HXg11g12.out; have := HXg14g15.out; have := HG.out; omega))
  replace Hg9 := Aside0.mk (Hg9.out.but hT_q54 (by have := HXg7.out; have := HXg8.out; have := HXg9.out; have := HXg10.out; have := HXg11.out; have := HXg12.out; have := HXg13.out; have := HXg14.out; have := HXg15.out; have := HXg16.out; have := HXg17.out; have := HXg7g8.out; have := HXg9g10.out; have := HXg11g12.out; have := HXg14g15.out; have := HG.out; omega))
  replace Hg10 := Aside0.mk (Hg10.out.but hT_q54 (by have := HXg7.out; have := HXg8.out; have := HXg9.out; have := HXg10.out; have := HXg11.out; have := HXg12.out; have := HXg13.out; have := HXg14.out; have := HXg15.out; have := HXg16.out; have := HXg17.out; have := HXg7g8.out; have := HXg9g10.out; have := HXg11g12.out; have := HXg14g15.out; have := HG.out; omega))
  replace Hg11 := Aside0.mk (Hg11.out.but hT_q54 (by have := HXg7.out; have := HXg8.out; have := HXg9.out; have := HXg10.out; have := HXg11.out; have := HXg12.out; have := HXg13.out; have := HXg14.out; have := HXg15.out; have := HXg16.out; have := HXg17.out; have := HXg7g8.out; have := HXg9g10.out; have := HXg11g12.out; have := HXg14g15.out; have := HG.out; omega))
  replace Hg12 := Aside0.mk (Hg12.out.but hT_q54 (by have := HXg7.out; have := HXg8.out; have := HXg9.out; have := HXg10.out; have := HXg11.out; have := HXg12.out; have := HXg13.out; have := HXg14.out; have := HXg15.out; have := HXg16.out; have := HXg17.out; have := HXg7g8.out; have := HXg9g10.out; have := HXg11g12.out; have := HXg14g15.out; have := HG.out; omega))
  replace Hg13 := Aside0.mk (Hg13.out.but hT_q54 (by have := HXg7.out; have := HXg8.out; have := HXg9.out; have := HXg10.out; have := HXg11.out; have := HXg12.out; have := HXg13.out; have := HXg14.out; have := HXg15.out; have := HXg16.out; have := HXg17.out; have := HXg7g8.out; have := HXg9g10.out; have := HXg11g12.out; have := HXg14g15.out; have := HG.out; omega))
  replace Hg14 := Aside0.mk (Hg14.out.but hT_q54 (by have := HXg7.out; have := HXg8.out; have := HXg9.out; have := HXg10.out; have := HXg11.out; have := HXg12.out; have := HXg13.out; have := HXg14.out; have := HXg15.out; have := HXg16.out; have := HXg17.out; have := HXg7g8.out; have := HXg9g10.out; have := HXg11g12.out; have := HXg14g15.out; have := HG.out; omega))
  replace Hg15 := Aside0.mk (Hg15.out.but hT_q54 (by have := HXg7.out; have := HXg8.out; have := HXg9.out; have := HXg10.out; have := HXg11.out; have := HXg12.out; have := HXg13.out; have := HXg14.out; have := HXg15.out; have := HXg16.out; have := HXg17.out; have := HXg7g8.out; have := HXg9g10.out; have := HXg11g12.out; have := HXg14g15.out; have := HG.out; omega))
  replace Hg16 := Aside0.mk (Hg16.out.but hT_q54 (by have := HXg7.out; have := HXg8.out; have := HXg9.out; have := HXg10.out; have := HXg11.out; have := HXg12.out; have := HXg13.out; have := HXg14.out; have := HXg15.out; have := HXg16.out; have := HXg17.out; have := HXg7g8.out; have := HXg9g10.out; have := HXg11g12.out; have := HXg14g15.out; have := HG.out; omega))
  replace Hg17 := Aside0.mk (Hg17.out.but hT_q54 (by have := HXg7.out; have := HXg8.out; have := HXg9.out; have := HXg10.out; have := HXg11.out; have := HXg12.out; have := HXg13.out; have := HXg14.out; have := HXg15.out; have := HXg16.out; have := HXg17.out; have := HXg7g8.out; have := HXg9g10.out; have := HXg11g12.out; have := HXg14g15.out; have := HG.out; omega))
  replace HF := Aside0.mk (HF.out.but hT_q54 (by have := HXg7.out; have := HXg8.out; have := HXg9.out; have := HXg10.out; have := HXg11.out; have := HXg12.out; have := HXg13.out; have := HXg14.out; have := HXg15.out; have := HXg16.out; have := HXg17.out; have := HXg7g8.out; have := HXg9g10.out; have := HXg11g12.out; have := HXg14g15.out; have := HG.out; omega))
  replace HR := Aside0.mk hA_q54
  replace HB := Aside0.mk (bl_but HB.out hT_q54 HB.out.size (by have := HXg7.out; have := HXg8.out; have := HXg9.out; have := HXg10.out; have := HXg11.out; have := HXg12.out; have := HXg13.out; have := HXg14.out; have := HXg15.out; have := HXg16.out; have := HXg17.out; have := HXg7g8.out; have := HXg9g10.out; have := HXg11g12.out; have := HXg14g15.out; have := HG.out; omega))
  replace HS := Aside0.mk (Nat.le_trans HS.out hT_q54.size)
  clear hA_q54 hT_q54 hb_u52 hb_u53 hHeld
  go_wp2
  exact bodyPost_ret (v := thV t17 t21 t23) (results_th rfl rfl HR.out) rfl ⟨by rw [QR.out]; rfl, HB.out⟩
theorem psum_calls {gf : Nat} {x1 y1 z1 x2 y2 z2 : Nat} (b_x1 : x1 < pP) (b_y1 : y1 < pP) (b_z1 : z1 < pP) (b_x2 : x2 < pP) (b_y2 : y2 < pP) (b_z2 : z2 < pP) (w : World) (hF : CFld w gf) :
  Calls Try.prog 32 #[cvV gf, thV x1 y1 z1, thV x2 y2 z2] w fun e w' => e = .returned (thT (suJ x1 y1 z1 x2 y2 z2)) ∧ Below w.heap.size w w' := by
 by_cases h1 : z1 = 0
 ·exact psum_a h1 w hF
 ·by_cases h2 : z2 = 0
  ·exact psum_b b_z1 h1 h2 w hF
  ·exact psum_c b_x1 b_y1 b_z1 b_x2 b_y2 b_z2 h1 h2 w hF
end Go.Proofs.Ytkfjhndofbmhoaa
