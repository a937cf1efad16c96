/- What the proof of PointMultiples is made of, part 25. -/
import Derived.Test.YtkfjhndofbmhoaaZPointMultiples24
import Derived.Test.YtkfjhndofbmhoaaZPointMultiples18
import Derived.Test.YtkfjhndofbmhoaaZPointMultiples19
import Derived.Test.YtkfjhndofbmhoaaZPointMultiples22
import Derived.Test.YtkfjhndofbmhoaaZPointMultiples8
import Derived.Test.YtkfjhndofbmhoaaZPointMultiplesh
namespace Go.Proofs.Ytkfjhndofbmhoaa
open Go.RowKit Go.Proofs.Ytkfjhndofbmhoaa.Arr Go.Proofs.YtkfjhndofbmhoaaW.PrintWords Go.Proofs.YtkfjhndofbmhoaaW.PrintLast Go.Proofs.YtkfjhndofbmhoaaW.PrintMore
attribute [local go_sem high] eqg_num eqg_num0
set_option linter.unusedVariables false
set_option linter.unusedSimpArgs false
def thT (t : Nat × Nat × Nat) : Value := thV t.1 t.2.1 t.2.2
theorem eql_zero {n : Nat} (h : n < N256) (w : World) : (binOp .eql 24 (numV n) (.agg #[.int .u64 0, .int .u64 0, .int .u64 0, .int .u64 0])).run Try.prog w = .ok (.bool (decide (n = 0))) w := eql_num h (b := 0) N256_pos w
theorem pinv_some {gf a v : Nat} (ha : a < pP) (h : invO pP a = some v) (w : World) (hF : CFld w gf) : Calls Try.prog 58 #[.pointer (some ⟨gf, 0, none⟩), numV a] w fun e w' => e = .returned (.tuple #[numV v, .nilIface]) ∧ Below w.heap.size w w' := by
 have := pinv_calls ha w hF
 unfold invV invE at this
 rw [h] at this
 exact this
theorem pinv_none {gf a : Nat} (ha : a < pP) (h : invO pP a = none) (w : World) (hF : CFld w gf) : Calls Try.prog 58 #[.pointer (some ⟨gf, 0, none⟩), numV a] w fun e w' => e = .returned (.tuple #[numV 0, .iface 38 (.int .i64 4)]) ∧ Below w.heap.size w w' := by
 have := pinv_calls ha w hF
 unfold invV invE at this
 rw [h] at this
 exact this
set_option maxRecDepth 100000 in
set_option maxHeartbeats 8000000 in
theorem pfar_calls (x y z : Nat) (hz : z < N256) (w : World) :
  Calls Try.prog 59 #[thV x y z] w fun e w' => e = .returned (.bool (decide (z = 0))) ∧ Below w.heap.size w w' := by
 have hq := fun w => eql_zero hz w
 generalize decide (z = 0) = D at *
 clear hz
 go_enter Try.func59, Try.ntmps59
 go_upto_region 1 with (fail)
 refine wp_at (w2 := (World.alloc w (.cells (hw3 x y z).toArray 62))) rfl ?_
 obtain ⟨x_0, e_0, h_0, b_0, s_0⟩ := new_ThAt w x y z
 rw [e_0]
 have HB : Aside0 (Below w.heap.size w x_0) := Aside0.mk b_0
 have HT : Aside0 (ThAt x_0 (w.heap.size) x y z) := Aside0.mk h_0
 have HS : Aside0 (w.heap.size + 1 ≤ x_0.heap.size) := Aside0.mk (Nat.le_of_eq s_0.symm)
 clear e_0 h_0 b_0 s_0
 obtain ⟨w1, hw_⟩ : ∃ x, x = x_0 := ⟨_, rfl⟩
 subst hw_
 go_wp2_with (first | ((with_reducible refine gate_dst (N := 4) rfl ?_); refine ld_num (HT.out.rz) rfl _ rfl rfl ?_))
 go_ret
 exact ⟨rfl, HB.out⟩
/-- a point by three numbers -/
def liJ (x y : Nat) (f : Bool) : Nat × Nat × Nat := if f then (0, 0, 0) else (x, y, 1)
set_option maxRecDepth 100000 in
set_option maxHeartbeats 8000000 in
theorem plift_calls (x y : Nat) (f : Bool) (w : World) : Calls Try.prog 33 #[ptV x y f] w fun e w' => e = .returned (thT (liJ x y f)) ∧ Below w.heap.size w w' := by
 cases f
 ·show Calls _ _ _ _ (fun e w' => e = .returned (thV x y 1) ∧ Below w.heap.size w w')
  go_enter Try.func33, Try.ntmps33
  go_upto_region 1 with (fail)
  refine wp_at (w2 := (World.alloc (World.alloc w (.cells (pw x y false).toArray 26)) (.cells (hw3 0 0 0).toArray 62))) rfl ?_
  obtain ⟨x_0, e_0, h_0, b_0, s_0⟩ := new_PtAt w x y false
  obtain ⟨x_1, e_1, h_1, b_1, s_1⟩ := new_ThAt x_0 0 0 0
  rw [e_0, e_1]
  rw [s_0] at h_1 s_1
  have HB : Aside0 (Below w.heap.size w x_1) := Aside0.mk (bl_both b_0 b_1)
  have HA : Aside0 (PtAt x_1 (w.heap.size) x y false) := Aside0.mk (h_0.on b_1)
  have HR : Aside0 (ThAt x_1 (w.heap.size + 1) 0 0 0) := Aside0.mk h_1
  have HS : Aside0 (w.heap.size + 1 + 1 ≤ x_1.heap.size) := Aside0.mk (Nat.le_of_eq s_1.symm)
  clear e_0 h_0 b_0 s_0 e_1 h_1 b_1 s_1
  obtain ⟨w1, hw_⟩ : ∃ x, x = x_1 := ⟨_, rfl⟩
  subst hw_
  clear x_0
  have cq0 := HA.out.far
  go_upto_region 3 with (fail)
  clear cq0
  go_wp2_with (first | ((with_reducible refine gate_dst (N := 7) rfl ?_); refine ld_num (HA.out.rx) rfl _ rfl rfl ?_) | ((with_reducible refine gate_dst (N := 9) rfl ?_); refine ld_num (HA.out.ry) rfl _ rfl rfl ?_) | ((with_reducible refine gate_dst (N := 11) rfl ?_); refine bd_th (p := x) (q := y) (r := 1) rfl _ rfl (.tmp 7) (.tmp 9) (.tmp 10) rfl rfl rfl rfl ?_) | ((with_reducible refine gate_st (y := .tmp 11) rfl ?_); (try simp only [aS]); refine st_th (x := x) (y := y) (z := 1) HR.out rfl _ _ rfl rfl rfl ?_; intro u1 hn_ hb_; replace HA := Aside0.mk (HA.out.but hb_ (by omega)); replace HR := Aside0.mk hn_; replace HB := Aside0.mk (bl_but HB.out hb_ HB.out.size (by omega)); replace HS := Aside0.mk (Nat.le_trans HS.out hb_.size); clear hn_ hb_))
  exact bodyPost_ret (v := thV x y 1) (results_th rfl rfl HR.out) rfl ⟨rfl, HB.out⟩
 ·show Calls _ _ _ _ (fun e w' => e = .returned (thV 0 0 0) ∧ Below w.heap.size w w')
  go_enter Try.func33, Try.ntmps33
  go_upto_region 1 with (fail)
  refine wp_at (w2 := (World.alloc (World.alloc w (.cells (pw x y true).toArray 26)) (.cells (hw3 0 0 0).toArray 62))) rfl ?_
  obtain ⟨x_0, e_0, h_0, b_0, s_0⟩ := new_PtAt w x y true
  obtain ⟨x_1, e_1, h_1, b_1, s_1⟩ := new_ThAt x_0 0 0 0
  rw [e_0, e_1]
  rw [s_0] at h_1 s_1
  have HB : Aside0 (Below w.heap.size w x_1) := Aside0.mk (bl_both b_0 b_1)
  have HA : Aside0 (PtAt x_1 (w.heap.size) x y true) := Aside0.mk (h_0.on b_1)
  have HR : Aside0 (ThAt x_1 (w.heap.size + 1) 0 0 0) := Aside0.mk h_1
  have HS : Aside0 (w.heap.size + 1 + 1 ≤ x_1.heap.size) := Aside0.mk (Nat.le_of_eq s_1.symm)
  clear e_0 h_0 b_0 s_0 e_1 h_1 b_1 s_1
  obtain ⟨w1, hw_⟩ : ∃ x, x = x_1 := ⟨_, rfl⟩
  subst hw_
  clear x_0
  have cq0 := HA.out.far
  go_upto_region 2 with (fail)
  clear cq0
  go_wp2_with (first | ((with_reducible refine gate_st (y := .tmp 5) rfl ?_); (try simp only [aS]); refine st_th (x := 0) (y := 0) (z := 0) HR.out rfl _ _ rfl rfl rfl ?_; intro u2 hn_ hb_; replace HA := Aside0.mk (HA.out.but hb_ (by omega)); replace HR := Aside0.mk hn_; replace HB := Aside0.mk (bl_but HB.out hb_ HB.out.size (by omega)); replace HS := Aside0.mk (Nat.le_trans HS.out hb_.size); clear hn_ hb_))
  exact bodyPost_ret (v := thV 0 0 0) (results_th rfl rfl HR.out) rfl ⟨rfl, HB.out⟩
/-- the point of three numbers -/
noncomputable def flJ (x y z : Nat) : Value := match invO pP z with
 | none => ptV 0 0 true
 | some v => ptV (mmp x (mmp v v)) (mmp y (mmp (mmp v v) v)) false
theorem invO_spec {m a v : Nat} (h : invO m a = some v) : isInv m a v := by
 unfold invO at h
 split at h
 ·rename_i h2
  injection h with h
  rw [← h]
  exact Classical.choose_spec h2
 ·cases h
theorem invO_lt {m a v : Nat} (h : invO m a = some v) : v < m := (invO_spec h).1
set_option maxRecDepth 100000 in
set_option maxHeartbeats 8000000 in
theorem pflat_some {gf : Nat} {x y z v : Nat} (b_x : x < pP) (b_y : y < pP) (b_z : z < pP) (hinv : invO pP z = some v) (w : World) (hF : CFld w gf) :
  Calls Try.prog 31 #[cvV gf, thV x y z] w fun e w' => e = .returned (flJ x y z) ∧ Below w.heap.size w w' := by
 have HG : Aside0 (gf < w.heap.size) := Aside0.mk hF.size
 have b_v := invO_lt hinv
 obtain ⟨t1, e_t1⟩ : ∃ t, t = v * v % pP := ⟨_, rfl⟩
 have b_t1 : t1 < pP := by rw [e_t1]; exact mod_p _
 obtain ⟨t2, e_t2⟩ : ∃ t, t = x * t1 % pP := ⟨_, rfl⟩
 have b_t2 : t2 < pP := by rw [e_t2]; exact mod_p _
 obtain ⟨t3, e_t3⟩ : ∃ t, t = t1 * v % pP := ⟨_, rfl⟩
 have b_t3 : t3 < pP := by rw [e_t3]; exact mod_p _
 obtain ⟨t4, e_t4⟩ : ∃ t, t = y * t3 % pP := ⟨_, rfl⟩
 have b_t4 : t4 < pP := by rw [e_t4]; exact mod_p _
 have K1 := Aside0.mk (fun (u : World) (h : CFld u gf) => pinv_some b_z hinv u h)
 have K2 := Aside0.mk (fun (u : World) (h : CFld u gf) => psquare_calls b_v u h)
 have K3 := Aside0.mk (fun (u : World) (h : CFld u gf) => pmul_calls b_x b_t1 u h)
 have K4 := Aside0.mk (fun (u : World) (h : CFld u gf) => pmul_calls b_t1 b_v u h)
 have K5 := Aside0.mk (fun (u : World) (h : CFld u gf) => pmul_calls b_y b_t3 u h)
 rw [← e_t1] at K2
 rw [← e_t2] at K3
 rw [← e_t3] at K4
 rw [← e_t4] at K5
 have hres : flJ x y z = ptV t2 t4 false := by
  unfold flJ
  rw [hinv]
  subst e_t1 e_t2 e_t3 e_t4
  rfl
 rw [hres]
 clear hres
 clear e_t1 e_t2 e_t3 e_t4 b_t1 b_t2 b_t3 b_t4 b_x b_y b_z hinv b_v
 go_enter Try.func31, Try.ntmps31
 go_upto_region 1 with (fail)
 refine wp_at (w2 := (World.alloc (World.alloc (World.alloc w (.cells (cvl gf).toArray 58)) (.cells (hw3 x y z).toArray 62)) (.cells (pw 0 0 false).toArray 26))) rfl ?_
 obtain ⟨x_0, e_0, h_0, b_0, s_0⟩ := new_CvAt w gf
 obtain ⟨x_1, e_1, h_1, b_1, s_1⟩ := new_ThAt x_0 x y z
 obtain ⟨x_2, e_2, h_2, b_2, s_2⟩ := new_PtAt x_1 0 0 false
 rw [e_0, e_1, e_2]
 rw [s_0] at h_1 s_1
 rw [s_1] at h_2 s_2
 have HB : Aside0 (Below w.heap.size w x_2) := Aside0.mk (bl_both (bl_both b_0 b_1) b_2)
 have HC : Aside0 (CvAt x_2 (w.heap.size) gf) := Aside0.mk ((h_0.on b_1).on b_2)
 have HT : Aside0 (ThAt x_2 (w.heap.size + 1) x y z) := Aside0.mk (h_1.on b_2)
 have HR : Aside0 (PtAt x_2 (w.heap.size + 1 + 1) 0 0 false) := Aside0.mk h_2
 have HS : Aside0 (w.heap.size + 1 + 1 + 1 ≤ x_2.heap.size) := Aside0.mk (Nat.le_of_eq s_2.symm)
 have HF := Aside0.mk (hF.on HB.out)
 clear e_0 h_0 b_0 s_0 e_1 h_1 b_1 s_1 e_2 h_2 b_2 s_2 hF
 obtain ⟨w1, hw_⟩ : ∃ x, x = x_2 := ⟨_, rfl⟩
 subst hw_
 clear x_0 x_1
 have cq0 := HC.out.c0
 go_upto_region 2 with (first | ((with_reducible refine gate_dst (N := 12) rfl ?_); refine ld_num (HT.out.rz) rfl _ rfl rfl ?_) | ((with_reducible refine gate_dst (N := 13) rfl ?_); refine goesL_ (some 13) rfl rfl Try.func58 (by kernel_rfl) rfl #[.pointer (some ⟨gf, 0, none⟩), numV z] rfl (by (try simp only [List.map_toArray, List.map_cons, List.map_nil]); first | done | rfl) ?_; (with_reducible refine (K1.out _ (HF.out)).mono ?_); rintro e u3 ⟨rfl, hb_⟩; refine ⟨_, rfl, ?_⟩; replace HC := Aside0.mk (HC.out.on hb_); replace HT := Aside0.mk (HT.out.on hb_); replace HR := Aside0.mk (HR.out.on hb_); replace HF := Aside0.mk (HF.out.on hb_); replace HB := Aside0.mk (bl_on HB.out hb_ HB.out.size); replace HS := Aside0.mk (Nat.le_trans HS.out hb_.size); replace cq0 := HC.out.c0; clear hb_) | ((with_reducible refine gate_dst (N := 5) rfl ?_); refine al_num rfl _ rfl rfl ?_; intro g5 u4 eg_ hn_ hb_; have HXg5 : Aside0 (w.heap.size + 1 + 1 + 1 ≤ g5) := Aside0.mk (by rw [eg_]; exact HS.out); replace HC := Aside0.mk (HC.out.on hb_); replace HT := Aside0.mk (HT.out.on hb_); replace HR := Aside0.mk (HR.out.on hb_); replace HF := Aside0.mk (HF.out.on hb_); replace HB := Aside0.mk (bl_on HB.out hb_ HB.out.size); replace HS := Aside0.mk (Nat.le_trans HS.out hb_.size); replace cq0 := HC.out.c0; have Hg5 := Aside0.mk hn_; clear hn_ hb_ eg_) | ((with_reducible refine gate_st (y := .tmp 14) rfl ?_); (try simp only [aS]); refine st_num Hg5.out rfl _ _ rfl rfl rfl ?_; intro u5 hn_ hb_; replace HC := Aside0.mk (HC.out.but hb_ (by have := HXg5.out; have := HG.out; omega)); replace HT := Aside0.mk (HT.out.but hb_ (by have := HXg5.out; have := HG.out; omega)); replace HR := Aside0.mk (HR.out.but hb_ (by have := HXg5.out; have := HG.out; omega)); replace HF := Aside0.mk (HF.out.but hb_ (by have := HXg5.out; have := HG.out; omega)); replace Hg5 := Aside0.mk hn_; replace HB := Aside0.mk (bl_but HB.out hb_ HB.out.size (by have := HXg5.out; have := HG.out; omega)); replace HS := Aside0.mk (Nat.le_trans HS.out hb_.size); replace cq0 := HC.out.c0; clear hn_ hb_))
 clear cq0
 go_upto_region 5 with (first | ((with_reducible refine gate_dst (N := 19) rfl ?_); refine ld_cv HC.out rfl _ rfl rfl ?_) | ((with_reducible refine gate_dst (N := 20) rfl ?_); refine ld_num (Hg5.out.range) rfl _ rfl rfl ?_) | ((with_reducible refine gate_dst (N := 21) rfl ?_); refine goesL_ (some 21) rfl rfl Try.func55 (by kernel_rfl) rfl #[cvV gf, numV v] rfl (by (try simp only [List.map_toArray, List.map_cons, List.map_nil]); first | done | rfl) ?_; (with_reducible refine (K2.out _ (HF.out)).mono ?_); rintro e u6 ⟨rfl, hb_⟩; refine ⟨_, rfl, ?_⟩; replace HC := Aside0.mk (HC.out.on hb_); replace HT := Aside0.mk (HT.out.on hb_); replace HR := Aside0.mk (HR.out.on hb_); replace Hg5 := Aside0.mk (Hg5.out.on hb_); replace HF := Aside0.mk (HF.out.on hb_); replace HB := Aside0.mk (bl_on HB.out hb_ HB.out.size); replace HS := Aside0.mk (Nat.le_trans HS.out hb_.size); clear hb_) | ((with_reducible refine gate_dst (N := 7) rfl ?_); refine al_num rfl _ rfl rfl ?_; intro g7 u7 eg_ hn_ hb_; have HXg7 : Aside0 (w.heap.size + 1 + 1 + 1 ≤ g7 ∧ g5 < g7) := Aside0.mk (by rw [eg_]; exact ⟨HS.out, Hg5.out.size⟩); replace HC := Aside0.mk (HC.out.on hb_); replace HT := Aside0.mk (HT.out.on hb_); replace HR := Aside0.mk (HR.out.on hb_); replace Hg5 := Aside0.mk (Hg5.out.on hb_); replace HF := Aside0.mk (HF.out.on hb_); replace HB := Aside0.mk (bl_on HB.out hb_ HB.out.size); replace HS := Aside0.mk (Nat.le_trans HS.out hb_.size); have Hg7 := Aside0.mk hn_; clear hn_ hb_ eg_) | ((with_reducible refine gate_st (y := .tmp 21) rfl ?_); (try simp only [aS]); refine st_num Hg7.out rfl _ _ rfl rfl rfl ?_; intro u8 hn_ hb_; replace HC := Aside0.mk (HC.out.but hb_ (by have := HXg5.out; have := HXg7.out; have := HG.out; omega)); replace HT := Aside0.mk (HT.out.but hb_ (by have := HXg5.out; have := HXg7.out; have := HG.out; omega)); replace HR := Aside0.mk (HR.out.but hb_ (by have := HXg5.out; have := HXg7.out; have := HG.out; omega)); replace Hg5 := Aside0.mk (Hg5.out.but hb_ (by have := HXg5.out; have := HXg7.out; have := HG.out; omega)); replace HF := Aside0.mk (HF.out.but hb_ (by have := HXg5.out; have := HXg7.out; have := HG.out; omega)); replace Hg7 := Aside0.mk hn_; replace HB := Aside0.mk (bl_but HB.out hb_ HB.out.size (by have := HXg5.out; have := HXg7.out; have := HG.out; omega)); replace HS := Aside0.mk (Nat.le_trans HS.out hb_.size); clear hn_ hb_))
 refine start_ (n := 18) (S := fun w' => Below u8.heap.size u8 w' ∧ w'.cell? ⟨w.heap.size, 3, none⟩ = some (mthV 53 gf)) (ds := [17]) (bs 18 0) (by kernel_rfl) rfl rfl ⟨(Below.refl _ _).drew, HC.out.c3⟩ (fun hHeld => ?_)
 refine pu_ 0 22 (bs 18 1) ?_ ?_ ?_ ?_ ?_
 rotate_left
 ·intro w'
  go_simp
  with_reducible rfl
 rotate_left
 ·simp only [aS, i64_w, i32_w]
  rfl
 refine pu_ 2 24 (bs 18 5) ?_ ?_ ?_ ?_ ?_
 rotate_left
 ·intro w'
  go_simp
  with_reducible rfl
 rotate_left
 ·simp only [aS, i64_w, i32_w]
  rfl
 refine pu_ 6 28 (bs 18 69) ?_ ?_ ?_ ?_ ?_
 rotate_left
 ·intro w'
  go_simp
  with_reducible rfl
 rotate_left
 ·simp only [aS, i64_w, i32_w]
  rfl
 refine pu_ 8 30 (bs 18 325) ?_ ?_ ?_ ?_ ?_
 rotate_left
 ·intro w'
  go_simp
  with_reducible rfl
 rotate_left
 ·simp only [aS, i64_w, i32_w]
  rfl
 refine pu_ 10 32 (bs 18 1349) ?_ ?_ ?_ ?_ ?_
 rotate_left
 ·intro w'
  go_simp
  with_reducible rfl
 rotate_left
 ·simp only [aS, i64_w, i32_w]
  rfl
 refine tk_ 1 23 (bs 18 1351) ?_ ?_ hHeld ?_ ?_ ?_
 rotate_left
 ·rintro w' ⟨s0, s1⟩
  go_simp
  with_reducible rfl
 rotate_left
 ·simp only [aS, i64_w, i32_w]
  rfl
 refine take_ (i := 3) (N := some 25) (a' := ?_) (bs 18 1359) rfl rfl (by kernel_rfl) (fun _ _ _ h => h) (yields_num (g := w.heap.size + 1) (o := 0) (n := x) (by rfl) (.tmp 24) rfl rfl (fun w' hS => (HT.out.on hS.1).rx)) hHeld ?_ ?_
 rotate_left
 ·simp only [aS, i64_w, i32_w]
  rfl
 refine take_ (i := 4) (N := some 26) (a' := ?_) (bs 18 1375) rfl rfl (by kernel_rfl) (fun _ _ _ h => h) (yields_num (g := g7) (o := 0) (n := t1) (by rfl) (.tmp 7) rfl rfl (fun w' hS => (Hg7.out.on hS.1).range)) hHeld ?_ ?_
 rotate_left
 ·simp only [aS, i64_w, i32_w]
  rfl
 refine tk_ 7 29 (bs 18 1503) ?_ ?_ hHeld ?_ ?_ ?_
 rotate_left
 ·rintro w' ⟨s0, s1⟩
  go_simp
  with_reducible rfl
 rotate_left
 ·simp only [aS, i64_w, i32_w]
  rfl
 refine take_ (i := 9) (N := some 31) (a' := ?_) (bs 18 2015) rfl rfl (by kernel_rfl) (fun _ _ _ h => h) (yields_num (g := w.heap.size + 1) (o := 4) (n := y) (by rfl) (.tmp 30) rfl rfl (fun w' hS => (HT.out.on hS.1).ry)) hHeld ?_ ?_
 rotate_left
 ·simp only [aS, i64_w, i32_w]
  rfl
 refine tk_ 11 33 (bs 18 4063) ?_ ?_ hHeld ?_ ?_ ?_
 rotate_left
 ·rintro w' ⟨s0, s1⟩
  go_simp
  with_reducible rfl
 rotate_left
 ·simp only [aS, i64_w, i32_w]
  rfl
 refine take_ (i := 12) (N := some 34) (a' := ?_) (bs 18 8159) rfl rfl (by kernel_rfl) (fun _ _ _ h => h) (yields_num (g := g7) (o := 0) (n := t1) (by rfl) (.tmp 7) rfl rfl (fun w' hS => (Hg7.out.on hS.1).range)) hHeld ?_ ?_
 rotate_left
 ·simp only [aS, i64_w, i32_w]
  rfl
 refine take_ (i := 13) (N := some 35) (a' := ?_) (bs 18 16351) rfl rfl (by kernel_rfl) (fun _ _ _ h => h) (yields_num (g := g5) (o := 0) (n := v) (by rfl) (.tmp 5) rfl rfl (fun w' hS => (Hg5.out.on hS.1).range)) hHeld ?_ ?_
 rotate_left
 ·simp only [aS, i64_w, i32_w]
  rfl
 refine on1_ 5 (some 27) (bs 18 16383) rfl fun K hK => ?_
 refine gF_ Try.func53 gf (numV x) (numV t1) rfl ?_
 with_reducible refine (K3.out _ (HF.out.on hHeld.1)).mono ?_
 rintro e u9 ⟨rfl, hb_u9⟩
 refine ⟨_, rfl, ?_⟩
 have hq_u9 := bl_on hHeld.1 hb_u9 hHeld.1.size
 refine hK.out _ _ ⟨hq_u9, (HC.out.on (hq_u9)).c3⟩ (fun hHeld => ?_)
 clear hK K
 refine nm_ (some 27) ?_
 refine on1_ 14 (some 36) (bs 18 32767) rfl fun K hK => ?_
 refine gF_ Try.func53 gf (numV t1) (numV v) rfl ?_
 with_reducible refine (K4.out _ (HF.out.on hHeld.1)).mono ?_
 rintro e u10 ⟨rfl, hb_u10⟩
 refine ⟨_, rfl, ?_⟩
 have hq_u10 := bl_on hHeld.1 hb_u10 hHeld.1.size
 refine hK.out _ _ ⟨hq_u10, (HC.out.on (hq_u10)).c3⟩ (fun hHeld => ?_)
 clear hK K
 refine nm_ (some 36) ?_
 refine on1_ 15 (some 37) (bs 18 65535) rfl fun K hK => ?_
 refine gF_ Try.func53 gf (numV y) (numV t3) rfl ?_
 with_reducible refine (K5.out _ (HF.out.on hHeld.1)).mono ?_
 rintro e u11 ⟨rfl, hb_u11⟩
 refine ⟨_, rfl, ?_⟩
 have hq_u11 := bl_on hHeld.1 hb_u11 hHeld.1.size
 refine hK.out _ _ ⟨hq_u11, (HC.out.on (hq_u11)).c3⟩ (fun hHeld => ?_)
 clear hK K
 refine nm_ (some 37) ?_
 refine on1_ 16 (some 38) (bs 18 131071) rfl fun K hK => ?_
 refine value_ (w1 := _) (v := ptV t2 t4 false) (by rfl) rfl (rb_pt _ (.tmp 27) (.tmp 37) rfl rfl rfl) ?_
 refine hK.out _ _ ⟨hHeld.1, hHeld.2⟩ (fun hHeld => ?_)
 clear hK K
 refine nm_ (some 38) ?_
 refine last_ (i := 17) (N := none) (bs 18 262143) rfl rfl (by kernel_rfl) (by decide) (fun K hK => ?_)
 refine skip_pt (x := t2) (y := t4) (f := false) (HR.out.on hHeld.1) (by rfl) rfl (.tmp 4) (.tmp 38) rfl rfl rfl ?_
 intro q12 hA_q12 hT_q12
 refine hK.out _ _ ?_
 clear hK K
 refine done_ (by kernel_rfl) ?_
 replace HC := Aside0.mk (HC.out.on hHeld.1)
 replace HT := Aside0.mk (HT.out.on hHeld.1)
 replace HR := Aside0.mk (HR.out.on hHeld.1)
 replace Hg5 := Aside0.mk (Hg5.out.on hHeld.1)
 replace Hg7 := Aside0.mk (Hg7.out.on hHeld.1)
 replace HF := Aside0.mk (HF.out.on hHeld.1)
 replace HB := Aside0.mk (bl_on HB.out hHeld.1 HB.out.size)
 replace HS := Aside0.mk (Nat.le_trans HS.out hHeld.1.size)
 replace HC := Aside0.mk (HC.out.but hT_q12 (by have := HXg5.out; have := HXg7.out; have := HG.out; omega))
 replace HT := Aside0.mk (HT.out.but hT_q12 (by have := HXg5.out; have := HXg7.out; have := HG.out; omega))
 replace Hg5 := Aside0.mk (Hg5.out.but hT_q12 (by have := HXg5.out; have := HXg7.out; have := HG.out; omega))
 replace Hg7 := Aside0.mk (Hg7.out.but hT_q12 (by have := HXg5.out; have := HXg7.out; have := HG.out; omega))
 replace HF := Aside0.mk (HF.out.but hT_q12 (by have := HXg5.out; have := HXg7.out; have := HG.out; omega))
 replace HR := Aside0.mk hA_q12
 replace HB := Aside0.mk (bl_but HB.out hT_q12 HB.out.size (by have := HXg5.out; have := HXg7.out; have := HG.out; omega))
 replace HS := Aside0.mk (Nat.le_trans HS.out hT_q12.size)
 clear hA_q12 hT_q12 hb_u9 hb_u10 hb_u11 hHeld
 go_wp2
 exact bodyPost_ret (v := ptV t2 t4 false) (results_pt rfl rfl HR.out) rfl ⟨rfl, HB.out⟩
set_option maxRecDepth 100000 in
set_option maxHeartbeats 8000000 in
theorem pflat_none {gf : Nat} {x y z : Nat} (b_x : x < pP) (b_y : y < pP) (b_z : z < pP) (hinv : invO pP z = none) (w : World) (hF : CFld w gf) :
  Calls Try.prog 31 #[cvV gf, thV x y z] w fun e w' => e = .returned (flJ x y z) ∧ Below w.heap.size w w' := by
 have HG : Aside0 (gf < w.heap.size) := Aside0.mk hF.size
 have K1 := Aside0.mk (fun (u : World) (h : CFld u gf) => pinv_none b_z hinv u h)
 have hres : flJ x y z = ptV 0 0 true := by
  unfold flJ
  rw [hinv]
 rw [hres]
 clear hres
 clear b_x b_y b_z hinv
 go_enter Try.func31, Try.ntmps31
 go_upto_region 1 with (fail)
 refine wp_at (w2 := (World.alloc (World.alloc (World.alloc w (.cells (cvl gf).toArray 58)) (.cells (hw3 x y z).toArray 62)) (.cells (pw 0 0 false).toArray 26))) rfl ?_
 obtain ⟨x_0, e_0, h_0, b_0, s_0⟩ := new_CvAt w gf
 obtain ⟨x_1, e_1, h_1, b_1, s_1⟩ := new_ThAt x_0 x y z
 obtain ⟨x_2, e_2, h_2, b_2, s_2⟩ := new_PtAt x_1 0 0 false
 rw [e_0, e_1, e_2]
 rw [s_0] at h_1 s_1
 rw [s_1] at h_2 s_2
 have HB : Aside0 (Below w.heap.size w x_2) := Aside0.mk (bl_both (bl_both b_0 b_1) b_2)
 have HC : Aside0 (CvAt x_2 (w.heap.size) gf) := Aside0.mk ((h_0.on b_1).on b_2)
 have HT : Aside0 (ThAt x_2 (w.heap.size + 1) x y z) := Aside0.mk (h_1.on b_2)
 have HR : Aside0 (PtAt x_2 (w.heap.size + 1 + 1) 0 0 false) := Aside0.mk h_2
 have HS : Aside0 (w.heap.size + 1 + 1 + 1 ≤ x_2.heap.size) := Aside0.mk (Nat.le_of_eq s_2.symm)
 have HF := Aside0.mk (hF.on HB.out)
 clear e_0 h_0 b_0 s_0 e_1 h_1 b_1 s_1 e_2 h_2 b_2 s_2 hF
 obtain ⟨w1, hw_⟩ : ∃ x, x = x_2 := ⟨_, rfl⟩
 subst hw_
 clear x_0 x_1
 have cq0 := HC.out.c0
 go_upto_region 2 with (first | ((with_reducible refine gate_dst (N := 12) rfl ?_); refine ld_num (HT.out.rz) rfl _ rfl rfl ?_) | ((with_reducible refine gate_dst (N := 13) rfl ?_); refine goesL_ (some 13) rfl rfl Try.func58 (by kernel_rfl) rfl #[.pointer (some ⟨gf, 0, none⟩), numV z] rfl (by (try simp only [List.map_toArray, List.map_cons, List.map_nil]); first | done | rfl) ?_; (with_reducible refine (K1.out _ (HF.out)).mono ?_); rintro e u13 ⟨rfl, hb_⟩; refine ⟨_, rfl, ?_⟩; replace HC := Aside0.mk (HC.out.on hb_); replace HT := Aside0.mk (HT.out.on hb_); replace HR := Aside0.mk (HR.out.on hb_); replace HF := Aside0.mk (HF.out.on hb_); replace HB := Aside0.mk (bl_on HB.out hb_ HB.out.size); replace HS := Aside0.mk (Nat.le_trans HS.out hb_.size); replace cq0 := HC.out.c0; clear hb_) | ((with_reducible refine gate_dst (N := 5) rfl ?_); refine al_num rfl _ rfl rfl ?_; intro g5 u14 eg_ hn_ hb_; have HXg5 : Aside0 (w.heap.size + 1 + 1 + 1 ≤ g5) := Aside0.mk (by rw [eg_]; exact HS.out); replace HC := Aside0.mk (HC.out.on hb_); replace HT := Aside0.mk (HT.out.on hb_); replace HR := Aside0.mk (HR.out.on hb_); replace HF := Aside0.mk (HF.out.on hb_); replace HB := Aside0.mk (bl_on HB.out hb_ HB.out.size); replace HS := Aside0.mk (Nat.le_trans HS.out hb_.size); replace cq0 := HC.out.c0; have Hg5 := Aside0.mk hn_; clear hn_ hb_ eg_) | ((with_reducible refine gate_st (y := .tmp 14) rfl ?_); (try simp only [aS]); refine st_num Hg5.out rfl _ _ rfl rfl rfl ?_; intro u15 hn_ hb_; replace HC := Aside0.mk (HC.out.but hb_ (by have := HXg5.out; have := HG.out; omega)); replace HT := Aside0.mk (HT.out.but hb_ (by have := HXg5.out; have := HG.out; omega)); replace HR := Aside0.mk (HR.out.but hb_ (by have := HXg5.out; have := HG.out; omega)); replace HF := Aside0.mk (HF.out.but hb_ (by have := HXg5.out; have := HG.out; omega)); replace Hg5 := Aside0.mk hn_; replace HB := Aside0.mk (bl_but HB.out hb_ HB.out.size (by have := HXg5.out; have := HG.out; omega)); replace HS := Aside0.mk (Nat.le_trans HS.out hb_.size); replace cq0 := HC.out.c0; clear hn_ hb_))
 clear cq0
 go_wp2_with (first | ((with_reducible refine gate_st (y := .tmp 18) rfl ?_); (try simp only [aS]); refine st_pt (x := 0) (y := 0) (f := true) HR.out rfl _ _ rfl rfl rfl ?_; intro u16 hn_ hb_; replace HC := Aside0.mk (HC.out.but hb_ (by have := HXg5.out; have := HG.out; omega)); replace HT := Aside0.mk (HT.out.but hb_ (by have := HXg5.out; have := HG.out; omega)); replace Hg5 := Aside0.mk (Hg5.out.but hb_ (by have := HXg5.out; have := HG.out; omega)); replace HF := Aside0.mk (HF.out.but hb_ (by have := HXg5.out; have := HG.out; omega)); replace HR := Aside0.mk hn_; replace HB := Aside0.mk (bl_but HB.out hb_ HB.out.size (by have := HXg5.out; have := HG.out; omega)); replace HS := Aside0.mk (Nat.le_trans HS.out hb_.size); clear hn_ hb_))
 exact bodyPost_ret (v := ptV 0 0 true) (results_pt rfl rfl HR.out) rfl ⟨rfl, HB.out⟩
theorem pflat_calls {gf : Nat} {x y z : Nat} (b_x : x < pP) (b_y : y < pP) (b_z : z < pP) (w : World) (hF : CFld w gf) :
  Calls Try.prog 31 #[cvV gf, thV x y z] w fun e w' => e = .returned (flJ x y z) ∧ Below w.heap.size w w' := by
 cases h : invO pP z with
 | none => exact pflat_none b_x b_y b_z h w hF
 | some v => exact pflat_some b_x b_y b_z h w hF
end Go.Proofs.Ytkfjhndofbmhoaa
namespace Go.Proofs.Ytkfjhndofbmhoaa
open Go.RowKit Go.Proofs.Ytkfjhndofbmhoaa.Arr Go.Proofs.YtkfjhndofbmhoaaW.PrintWords Go.Proofs.YtkfjhndofbmhoaaW.PrintLast Go.Proofs.YtkfjhndofbmhoaaW.PrintMore
set_option linter.unusedVariables false
set_option linter.unusedSimpArgs false
/-- word j of half a number -/
def hword (n j : Nat) : Nat := if j < 3 then xw n j / 2 + xw n (j + 1) % 2 * 9223372036854775808 else xw n j / 2
def hq (n i j : Nat) : Value := if j < i then .int .u64 (hword n j : Nat) else .int .u64 (xw n j : Nat)
/-- a number's words, the first i of them halved -/
def hwl (n i : Nat) : List Value := [hq n i 0, hq n i 1, hq n i 2, hq n i 3]
theorem hwl_zero (n : Nat) : hwl n 0 = nw n := by
 unfold hwl hq nw
 simp only [Nat.not_lt_zero, if_false]
 have h : xw n 0 = wd0 n := by unfold wd0 xw; rw [Nat.mul_zero, Nat.pow_zero, Nat.div_one]
 rw [h]
 rfl
theorem hwl_four (n : Nat) (hn : n < N256) : hwl n 4 = nw (n / 2) := by
 have h0 : xw n 0 = wd0 n := by unfold wd0 xw; rw [Nat.mul_zero, Nat.pow_zero, Nat.div_one]
 have h1 : xw n 1 = wd1 n := rfl
 have h2 : xw n 2 = wd2 n := rfl
 have h3 : xw n 3 = wd3 n := rfl
 unfold hwl hq nw hword
 simp only [show (0 : Nat) < 4 from by decide, show (1 : Nat) < 4 from by decide, show (2 : Nat) < 4 from by decide, show (3 : Nat) < 4 from by decide, show (0 : Nat) < 3 from by decide, show (1 : Nat) < 3 from by decide, show (2 : Nat) < 3 from by decide, show ¬ (3 : Nat) < 3 from by decide, if_true, if_false, Nat.zero_add, Nat.reduceAdd]
 rw [h0, h1, h2, h3]
 have e0 : wd0 n / 2 + wd1 n % 2 * 9223372036854775808 = wd0 (n / 2) := by unfold wd0 wd1; omega
 have e1 : wd1 n / 2 + wd2 n % 2 * 9223372036854775808 = wd1 (n / 2) := by unfold wd1 wd2; omega
 have e2 : wd2 n / 2 + wd3 n % 2 * 9223372036854775808 = wd2 (n / 2) := by unfold wd2 wd3; omega
 have e3 : wd3 n / 2 = wd3 (n / 2) := by unfold N256 at hn; unfold wd3; omega
 rw [e0, e1, e2, e3]
theorem hwl_get (n i j : Nat) (hj : j < 4) (hi : i ≤ j) : (hwl n i)[j]? = some (.int .u64 (xw n j : Nat)) := by
 have h : ∀ j, i ≤ j → hq n i j = .int .u64 (xw n j : Nat) := fun j h => by unfold hq; rw [if_neg (by omega)]
 match j, hj, hi with
 | 0, _, hi => show some (hq n i 0) = _; rw [h 0 hi]
 | 1, _, hi => show some (hq n i 1) = _; rw [h 1 hi]
 | 2, _, hi => show some (hq n i 2) = _; rw [h 2 hi]
 | 3, _, hi => show some (hq n i 3) = _; rw [h 3 hi]
 | j + 4, hj, _ => exact absurd hj (by omega)
theorem hwl_set (n i : Nat) (hi : i < 4) : (hwl n i).set i (.int .u64 (hword n i : Nat)) = hwl n (i + 1) := by
 have hlt : ∀ j, j ≠ i → hq n i j = hq n (i + 1) j := fun j h => by
  unfold hq
  by_cases h2 : j < i
  ·rw [if_pos h2, if_pos (by omega)]
  ·rw [if_neg h2, if_neg (by omega)]
 have heq : hq n (i + 1) i = .int .u64 (hword n i : Nat) := by unfold hq; rw [if_pos (by omega)]
 unfold hwl
 match i, hi with
 | 0, _ => rw [← heq, hlt 1 (by decide), hlt 2 (by decide), hlt 3 (by decide)]; rfl
 | 1, _ => rw [← heq, hlt 0 (by decide), hlt 2 (by decide), hlt 3 (by decide)]; rfl
 | 2, _ => rw [← heq, hlt 0 (by decide), hlt 1 (by decide), hlt 3 (by decide)]; rfl
 | 3, _ => rw [← heq, hlt 0 (by decide), hlt 1 (by decide), hlt 2 (by decide)]; rfl
 | i + 4, h => exact absurd h (by omega)
theorem hwl_len (n i : Nat) : (hwl n i).length = 4 := rfl
/-- block g holds a number's words, the first i halved; and, with v in place i -/
def HAt (w : World) (g n i : Nat) : Prop := Row 24 w g (hwl n i)
def IAt (w : World) (g n i v : Nat) : Prop := Row 24 w g ((hwl n i).set i (.int .u64 (v : Nat)))
section
variable {w w' : World} {g n i v : Nat}
theorem HAt.size (h : HAt w g n i) : g < w.heap.size := Row.size h
theorem HAt.on (h : HAt w g n i) (hb : Below w.heap.size w w') : HAt w' g n i := Row.below h hb h.size
theorem HAt.but {g1 : Nat} (h : HAt w g n i) (hb : But w.heap.size g1 w w') (hg : g ≠ g1) : HAt w' g n i := Row.block h (hb.block g h.size hg)
theorem IAt.size (h : IAt w g n i v) : g < w.heap.size := Row.size h
theorem IAt.but {g1 : Nat} (h : IAt w g n i v) (hb : But w.heap.size g1 w w') (hg : g ≠ g1) : IAt w' g n i v := Row.block h (hb.block g h.size hg)
theorem HAt.of (h : NAt w g n) : HAt w g n 0 := by unfold HAt; rw [hwl_zero]; exact h
theorem HAt.num (h : HAt w g n 4) (hn : n < N256) : NAt w g (n / 2) := by unfold HAt at h; rw [hwl_four n hn] at h; exact h
theorem HAt.cell (h : HAt w g n i) (j : Nat) (hj : j < 4) (hi : i ≤ j) : w.cell? ⟨g, j, none⟩ = some (.int .u64 (xw n j : Nat)) := Row.cell h j _ (hwl_get n i j hj hi)
theorem HAt.free (h : HAt w g n i) (j : Nat) : w.frozen? ⟨g, j, none⟩ = false := Row.free h j
theorem IAt.free (h : IAt w g n i v) (j : Nat) : w.frozen? ⟨g, j, none⟩ = false := Row.free h j
theorem HAt.set (h : HAt w g n i) (v : Nat) : IAt (w.setCell ⟨g, i, none⟩ (.int .u64 (v : Nat))) g n i v := Row.set h i _
theorem IAt.set (h : IAt w g n i v) (u : Nat) : IAt (w.setCell ⟨g, i, none⟩ (.int .u64 (u : Nat))) g n i u := by
 have h1 := Row.set h i (.int .u64 (u : Nat))
 rw [List.set_set] at h1
 exact h1
theorem IAt.cell (h : IAt w g n i v) (hi : i < 4) : w.cell? ⟨g, i, none⟩ = some (.int .u64 (v : Nat)) := Row.cell h i _ (by rw [List.getElem?_set_self (by rw [hwl_len]; exact hi)])
theorem IAt.next (h : IAt w g n i v) (j : Nat) (hj : j < 4) (hi : j = i + 1) : w.cell? ⟨g, j, none⟩ = some (.int .u64 (xw n j : Nat)) := Row.cell h j _ (by rw [List.getElem?_set_ne (by omega)]; exact hwl_get n i j hj (by omega))
theorem IAt.done (h : IAt w g n i v) (hi : i < 4) (hv : v = hword n i) : HAt w g n (i + 1) := by
 unfold IAt at h
 rw [hv, hwl_set n i hi] at h
 exact h
end
theorem hword_last (n i : Nat) (h : ¬ i < 3) : hword n i = xw n i / 2 := by unfold hword; rw [if_neg h]
theorem hword_even (n i : Nat) (hb : xw n (i + 1) % 2 = 0) : hword n i = xw n i / 2 := by unfold hword; rw [hb]; split <;> omega
theorem hword_odd (n i : Nat) (h : i < 3) (hb : xw n (i + 1) % 2 = 1) : hword n i = xw n i / 2 + 9223372036854775808 := by unfold hword; rw [if_pos h, hb]
theorem div_two (a b : Nat) (h : b = a / 2) (hb : b < 9223372036854775808) : IntKind.u64.wrap ((a : Int) / 2) = (b : Int) := by rw [IntKind.wrap_u64]; omega
theorem inc_as (i j : Nat) (h : j = i + 1) : (i : Int) + 1 = (j : Int) := by omega
theorem mod_two (a b : Nat) (h : b = a % 2) : (a : Int) % 2 = (b : Int) := by omega
theorem wrap_top (y : Nat) (h : y < 9223372036854775808) : IntKind.u64.wrap ((y : Int) + 9223372036854775808) = ((y + 9223372036854775808 : Nat) : Int) := by rw [IntKind.wrap_u64]; omega
theorem xw_half (n i : Nat) : xw n i / 2 < 9223372036854775808 := by
 have h := xw_lt n i
 have e : (2 : Nat) ^ 64 = 18446744073709551616 := by decide
 omega
theorem wrap_inc (i j : Nat) (h : j = i + 1) (hi : i < 4) : wrap64 ((i : Int) + 1) = (j : Int) := by unfold wrap64; omega
theorem meas4c {t j : Nat} (h : t < 4) (hj : j = t + 1) : 4 - (intOf (.int .i64 (j : Int))).toNat < 4 - (intOf (.int .i64 (t : Int))).toNat := by
 show 4 - (j : Int).toNat < 4 - (t : Int).toNat
 omega
set_option maxRecDepth 100000 in
set_option maxHeartbeats 8000000 in
/-- clapperref02.half -/
theorem rhalf_calls (a m : Nat) (w : World) (hm : m < N256) (ha : a < N256) :
  Calls Try.prog 66 #[numV a, numV m] w fun e w' => e = .returned (numV (hf m a)) ∧ Below w.heap.size w w' := by
 obtain ⟨r, hr⟩ : ∃ r, r = hf m a := ⟨_, rfl⟩
 obtain ⟨b, hb⟩ : ∃ b, b = a % 2 := ⟨_, rfl⟩
 have f1 : ((wd0 a : Nat) : Int) % 2 = (b : Int) := by rw [hb, ← wd0_even]; omega
 rw [← hr]
 rw [numV_def a, numV_def m]
 by_cases hev : a % 2 = 0
 ·have d1 := b_not (b := b) (by omega)
  have HRa : Aside0 (r = a / 2) := Aside0.mk (by rw [hr]; unfold hf; rw [if_pos hev])
  have HAN := Aside0.mk ha
  clear hr hb hev hm ha
  go_enter Try.func66, Try.ntmps66
  go_upto_region 1 with (fail)
  refine wp_at (w2 := (World.alloc (World.alloc (World.alloc w (.cells (nw a).toArray 24)) (.cells (nw m).toArray 24)) (.cells (nw 0).toArray 24))) rfl ?_
  obtain ⟨x_0, e_0, h_0, b_0, s_0⟩ := new_num w a
  obtain ⟨x_1, e_1, h_1, b_1, s_1⟩ := new_num x_0 m
  obtain ⟨x_2, e_2, h_2, b_2, s_2⟩ := new_num x_1 0
  rw [e_0, e_1, e_2]
  rw [s_0] at h_1 s_1
  rw [s_1] at h_2 s_2
  have HB : Aside0 (Below w.heap.size w x_2) := Aside0.mk (bl_both (bl_both b_0 b_1) b_2)
  have HA : Aside0 (NAt x_2 (w.heap.size) a) := Aside0.mk ((h_0.on b_1).on b_2)
  have HM : Aside0 (NAt x_2 (w.heap.size + 1) m) := Aside0.mk (h_1.on b_2)
  have HR : Aside0 (NAt x_2 (w.heap.size + 1 + 1) 0) := Aside0.mk h_2
  have HS : Aside0 (w.heap.size + 1 + 1 + 1 ≤ x_2.heap.size) := Aside0.mk (Nat.le_of_eq s_2.symm)
  clear e_0 h_0 b_0 s_0 e_1 h_1 b_1 s_1 e_2 h_2 b_2 s_2
  obtain ⟨w1, hw_⟩ : ∃ x, x = x_2 := ⟨_, rfl⟩
  subst hw_
  clear x_0 x_1
  have ca0 := HA.out.cell.1
  go_upto_region 4 with (fail)
  clear ca0 f1 d1
  go_wp2
  have HVA : Aside0 (HAt w1 w.heap.size a 0) := Aside0.mk (HAt.of HA.out)
  go_loopw [6] (fun vi wr => ∃ i : Nat, i ≤ 4 ∧ vi = .int .i64 (i : Int) ∧ Aside0 (HAt wr (w.heap.size) a i) ∧ Aside0 (NAt wr (w.heap.size + 1) m) ∧ Aside0 (NAt wr (w.heap.size + 1 + 1) 0) ∧ Aside0 (Below w.heap.size w wr) ∧ Aside0 (w.heap.size + 1 + 1 + 1 ≤ wr.heap.size))
   (fun vi _ => 4 - (intOf vi).toNat)
  case atStart => exact ⟨0, Nat.zero_le _, rfl, HVA, HM, HR, HB, HS⟩
  case round =>
   clear HVA HM HR HB HS HA
   obtain ⟨i, hi, rfl, HVA, HM, HR, HB, HS⟩ := hrel
   obtain ⟨y0, hy0_⟩ : ∃ x, x = wr := ⟨_, rfl⟩
   subst hy0_
   by_cases hlt : i < 4
   ·have t1 : (i : Int) < 4 := by omega
    have t0 : (0 : Int) ≤ (i : Int) := Int.natCast_nonneg i
    obtain ⟨y, hy⟩ : ∃ y, y = xw a i / 2 := ⟨_, rfl⟩
    obtain ⟨x, hx⟩ : ∃ x, x = xw a i := ⟨_, rfl⟩
    have cx := HVA.out.cell i hlt (Nat.le_refl _)
    rw [← hx] at cx
    have f1 := div_two x y (by rw [hx]; exact hy) (by rw [hy]; exact xw_half _ _)
    have zt := HVA.out.free i
    obtain ⟨j, hj⟩ : ∃ j, j = i + 1 := ⟨_, rfl⟩
    have q2 := wrap_inc i j hj hlt
    have q3 := inc_as i j hj
    have HYY := Aside0.mk (And.intro hlt (And.intro hy hj))
    have hyl : y < 9223372036854775808 := by rw [hy]; exact xw_half _ _
    have HYL := Aside0.mk hyl
    clear hi hx hy hj hyl
    go_upto_region 8 with (fail)
    clear cx zt f1
    have hA_ : IAt (World.setCell y0 ⟨w.heap.size, i, none⟩ (.int .u64 (y : Int))) (w.heap.size) a i y := HVA.out.set y
    have hT_ : But y0.heap.size (w.heap.size) y0 (World.setCell y0 ⟨w.heap.size, i, none⟩ (.int .u64 (y : Int))) := but_set _ _ _
    generalize (World.setCell y0 ⟨w.heap.size, i, none⟩ (.int .u64 (y : Int))) = y1 at *
    replace HM := Aside0.mk (HM.out.but hT_ (by omega))
    replace HR := Aside0.mk (HR.out.but hT_ (by omega))
    have HIA := Aside0.mk hA_
    replace HB := Aside0.mk (bl_but HB.out hT_ HB.out.size (by omega))
    replace HS := Aside0.mk (Nat.le_trans HS.out hT_.size)
    clear hA_ hT_
    clear HVA
    by_cases h3 : i < 3
    ·obtain ⟨z, hz⟩ : ∃ z, z = xw a j := ⟨_, rfl⟩
     obtain ⟨b, hb⟩ : ∃ b, b = z % 2 := ⟨_, rfl⟩
     have f2 := mod_two z b hb
     have cz := HIA.out.next j (by have := HYY.out.2.2; omega) HYY.out.2.2
     rw [← hz] at cz
     have t3 : (i : Int) < 3 := by omega
     have t4 : (0 : Int) ≤ (j : Int) := Int.natCast_nonneg j
     have t5 : (j : Int) < 4 := by have := HYY.out.2.2; omega
     have HZq := Aside0.mk (And.intro hz (And.intro hb h3))
     rcases bit_two z with hb0 | hb0
     ·have d1 := b_not (b := b) (by rw [hb]; exact hb0)
      have HV0 := Aside0.mk hb0
      clear hz hb h3 hb0
      go_upto_region 6 with (fail)
      clear cz f2 d1 t3 t4 t5
      have HDA : Aside0 (HAt _ (w.heap.size) a j) := Aside0.mk (by rw [HYY.out.2.2]; exact HIA.out.done HYY.out.1 (by rw [HYY.out.2.1]; exact (hword_even _ _ (by rw [← HYY.out.2.2, ← HZq.out.1]; exact HV0.out)).symm))
      go_wp2
      refine ⟨⟨j, ?_, ?_, HDA, HM, HR, HB, HS⟩, ?_⟩
      ·rw [HYY.out.2.2]; exact HYY.out.1
      ·first | rfl | (rw [q2]; done) | (rw [q2]; rfl) | (rw [q3])
      ·first | exact meas4c HYY.out.1 HYY.out.2.2 | (rw [q2]; exact meas4c HYY.out.1 HYY.out.2.2) | (rw [q3]; exact meas4c HYY.out.1 HYY.out.2.2)
     ·have d1 := b_one (b := b) (by rw [hb]; exact hb0)
      have HV0 := Aside0.mk hb0
      clear hz hb h3 hb0
      have cy := HIA.out.cell HYY.out.1
      have zy := HIA.out.free i
      have f3 := wrap_top y HYL.out
      obtain ⟨y2, hy2⟩ : ∃ x, x = y + 9223372036854775808 := ⟨_, rfl⟩
      rw [← hy2] at f3
      have HYq := Aside0.mk hy2
      clear hy2
      go_upto_region 6 with (fail)
      clear cz f2 d1 t3 t4 t5 cy zy f3
      have hA_ : IAt (World.setCell y1 ⟨w.heap.size, i, none⟩ (.int .u64 (y2 : Int))) (w.heap.size) a i y2 := HIA.out.set y2
      have hT_ : But y1.heap.size (w.heap.size) y1 (World.setCell y1 ⟨w.heap.size, i, none⟩ (.int .u64 (y2 : Int))) := but_set _ _ _
      generalize (World.setCell y1 ⟨w.heap.size, i, none⟩ (.int .u64 (y2 : Int))) = y3 at *
      replace HM := Aside0.mk (HM.out.but hT_ (by omega))
      replace HR := Aside0.mk (HR.out.but hT_ (by omega))
      replace HIA := Aside0.mk hA_
      replace HB := Aside0.mk (bl_but HB.out hT_ HB.out.size (by omega))
      replace HS := Aside0.mk (Nat.le_trans HS.out hT_.size)
      clear hA_ hT_
      have HDA : Aside0 (HAt _ (w.heap.size) a j) := Aside0.mk (by rw [HYY.out.2.2]; exact HIA.out.done HYY.out.1 (by rw [HYq.out, HYY.out.2.1]; exact (hword_odd _ _ HZq.out.2.2 (by rw [← HYY.out.2.2, ← HZq.out.1]; exact HV0.out)).symm))
      go_wp2
      refine ⟨⟨j, ?_, ?_, HDA, HM, HR, HB, HS⟩, ?_⟩
      ·rw [HYY.out.2.2]; exact HYY.out.1
      ·first | rfl | (rw [q2]; done) | (rw [q2]; rfl) | (rw [q3])
      ·first | exact meas4c HYY.out.1 HYY.out.2.2 | (rw [q2]; exact meas4c HYY.out.1 HYY.out.2.2) | (rw [q3]; exact meas4c HYY.out.1 HYY.out.2.2)
    ·have t3 : ¬ (i : Int) < 3 := by omega
     have HV0 := Aside0.mk h3
     have t3 : decide ((i : Int) < 3) = false := decide_eq_false t3
     clear h3
     go_upto_region 6 with (fail)
     clear t3
     have HDA : Aside0 (HAt _ (w.heap.size) a j) := Aside0.mk (by rw [HYY.out.2.2]; exact HIA.out.done HYY.out.1 (by rw [HYY.out.2.1]; exact (hword_last _ _ HV0.out).symm))
     go_wp2
     refine ⟨⟨j, ?_, ?_, HDA, HM, HR, HB, HS⟩, ?_⟩
     ·rw [HYY.out.2.2]; exact HYY.out.1
     ·first | rfl | (rw [q2]; done) | (rw [q2]; rfl) | (rw [q3])
     ·first | exact meas4c HYY.out.1 HYY.out.2.2 | (rw [q2]; exact meas4c HYY.out.1 HYY.out.2.2) | (rw [q3]; exact meas4c HYY.out.1 HYY.out.2.2)
   ·have hi4 : i = 4 := by omega
    subst hi4
    have HA := Aside0.mk (HVA.out.num HAN.out)
    clear HVA hi hlt
    rw [show ((4 : Nat) : Int) = 4 from rfl]
    rw [← HRa.out] at HA
    go_wp2_with (first | ((with_reducible refine gate_dst (N := 48) rfl ?_); refine ld_num (HA.out.range) rfl _ rfl rfl ?_) | ((with_reducible refine gate_st (y := .tmp 48) rfl ?_); refine st_num (HR.out) rfl _ _ rfl rfl rfl ?_; intro z3 hA3 hT3; replace HA := Aside0.mk (HA.out.but hT3 (by omega)); replace HM := Aside0.mk (HM.out.but hT3 (by omega)); replace HR := Aside0.mk hA3; replace HB := Aside0.mk (bl_but HB.out hT3 HB.out.size (by omega)); replace HS := Aside0.mk (Nat.le_trans HS.out hT3.size); clear hA3 hT3))
    exact bodyPost_ret (v := numV r) (results_nat rfl rfl HR.out) rfl ⟨rfl, HB.out⟩
 ·have d1 := b_one (b := b) (by omega)
  have HC := Aside0.mk (fun u => plus_calls (IsNum.mk ha) (IsNum.mk hm) u)
  have hs := half_sum m a ha hm
  obtain ⟨n, hn⟩ : ∃ n, n = (a + m) % N256 := ⟨_, rfl⟩
  obtain ⟨D, hD⟩ : ∃ D, D = decide (N256 ≤ a + m) := ⟨_, rfl⟩
  simp only [← hn] at hs
  rw [← hn, ← hD] at HC
  have hnN : n < N256 := by rw [hn]; exact Nat.mod_lt _ N256_pos
  have hr2 : r = (a + m) / 2 := by rw [hr]; unfold hf; rw [if_neg hev]
  rw [← hr2] at hs
  obtain ⟨h, hh⟩ : ∃ h, h = n / 2 := ⟨_, rfl⟩
  rw [← hh] at hs
  have F1 : Aside0 (D = false → h = r) := Aside0.mk (fun e => hs.1 (by rw [e] at hD; simpa using hD.symm))
  have F2 : Aside0 (D = true → h + 57896044618658097711785492504343953926634992332820282019728792003956564819968 = r) := Aside0.mk (fun e => hs.2 (by rw [e] at hD; simpa using hD.symm))
  have HTW := Aside0.mk (top_words h (by omega))
  have HNN := Aside0.mk hnN
  have HHH : Aside0 (n / 2 = h) := Aside0.mk hh.symm
  clear hr hb hev hm ha hn hD hnN hr2 hh hs
  go_enter Try.func66, Try.ntmps66
  go_upto_region 1 with (fail)
  refine wp_at (w2 := (World.alloc (World.alloc (World.alloc w (.cells (nw a).toArray 24)) (.cells (nw m).toArray 24)) (.cells (nw 0).toArray 24))) rfl ?_
  obtain ⟨x_0, e_0, h_0, b_0, s_0⟩ := new_num w a
  obtain ⟨x_1, e_1, h_1, b_1, s_1⟩ := new_num x_0 m
  obtain ⟨x_2, e_2, h_2, b_2, s_2⟩ := new_num x_1 0
  rw [e_0, e_1, e_2]
  rw [s_0] at h_1 s_1
  rw [s_1] at h_2 s_2
  have HB : Aside0 (Below w.heap.size w x_2) := Aside0.mk (bl_both (bl_both b_0 b_1) b_2)
  have HA : Aside0 (NAt x_2 (w.heap.size) a) := Aside0.mk ((h_0.on b_1).on b_2)
  have HM : Aside0 (NAt x_2 (w.heap.size + 1) m) := Aside0.mk (h_1.on b_2)
  have HR : Aside0 (NAt x_2 (w.heap.size + 1 + 1) 0) := Aside0.mk h_2
  have HS : Aside0 (w.heap.size + 1 + 1 + 1 ≤ x_2.heap.size) := Aside0.mk (Nat.le_of_eq s_2.symm)
  clear e_0 h_0 b_0 s_0 e_1 h_1 b_1 s_1 e_2 h_2 b_2 s_2
  obtain ⟨w1, hw_⟩ : ∃ x, x = x_2 := ⟨_, rfl⟩
  subst hw_
  clear x_0 x_1
  have ca0 := HA.out.cell.1
  go_upto_region 3 with (fail)
  clear ca0 f1 d1
  go_upto_region 4 with (first | ((with_reducible refine gate_dst (N := 12) rfl ?_); refine ld_num (HA.out.range) rfl _ rfl rfl ?_) | ((with_reducible refine gate_dst (N := 13) rfl ?_); refine ld_num (HM.out.range) rfl _ rfl rfl ?_) | ((with_reducible refine gate_callee (f := 62) rfl ?_); refine goesL_ (some 14) rfl rfl Try.func62 (by kernel_rfl) rfl #[numV a, numV m] rfl (by (try simp only [List.map_toArray, List.map_cons, List.map_nil]); first | done | rfl) ?_; (with_reducible refine (HC.out _).mono ?_); rintro e u1 ⟨rfl, hb1⟩; replace HA := Aside0.mk (HA.out.on hb1); replace HM := Aside0.mk (HM.out.on hb1); replace HR := Aside0.mk (HR.out.on hb1); replace HB := Aside0.mk (bl_on HB.out hb1 HB.out.size); replace HS := Aside0.mk (Nat.le_trans HS.out hb1.size); clear hb1; refine ⟨_, rfl, ?_⟩) | ((with_reducible refine gate_st (y := .tmp 15) rfl ?_); refine st_num (HA.out) rfl _ _ rfl rfl rfl ?_; intro u2 hA2 hT2; replace HM := Aside0.mk (HM.out.but hT2 (by omega)); replace HR := Aside0.mk (HR.out.but hT2 (by omega)); replace HA := Aside0.mk hA2; replace HB := Aside0.mk (bl_but HB.out hT2 HB.out.size (by omega)); replace HS := Aside0.mk (Nat.le_trans HS.out hT2.size); clear hA2 hT2))
  go_wp2
  clear HC
  have HVA : Aside0 (HAt u2 w.heap.size n 0) := Aside0.mk (HAt.of HA.out)
  go_loopw [6] (fun vi wr => ∃ i : Nat, i ≤ 4 ∧ vi = .int .i64 (i : Int) ∧ Aside0 (HAt wr (w.heap.size) n i) ∧ Aside0 (NAt wr (w.heap.size + 1) m) ∧ Aside0 (NAt wr (w.heap.size + 1 + 1) 0) ∧ Aside0 (Below w.heap.size w wr) ∧ Aside0 (w.heap.size + 1 + 1 + 1 ≤ wr.heap.size))
   (fun vi _ => 4 - (intOf vi).toNat)
  case atStart => exact ⟨0, Nat.zero_le _, rfl, HVA, HM, HR, HB, HS⟩
  case round =>
   clear HVA HM HR HB HS HA
   obtain ⟨i, hi, rfl, HVA, HM, HR, HB, HS⟩ := hrel
   obtain ⟨y0, hy0_⟩ : ∃ x, x = wr := ⟨_, rfl⟩
   subst hy0_
   by_cases hlt : i < 4
   ·have t1 : (i : Int) < 4 := by omega
    have t0 : (0 : Int) ≤ (i : Int) := Int.natCast_nonneg i
    obtain ⟨y, hy⟩ : ∃ y, y = xw n i / 2 := ⟨_, rfl⟩
    obtain ⟨x, hx⟩ : ∃ x, x = xw n i := ⟨_, rfl⟩
    have cx := HVA.out.cell i hlt (Nat.le_refl _)
    rw [← hx] at cx
    have f1 := div_two x y (by rw [hx]; exact hy) (by rw [hy]; exact xw_half _ _)
    have zt := HVA.out.free i
    obtain ⟨j, hj⟩ : ∃ j, j = i + 1 := ⟨_, rfl⟩
    have q2 := wrap_inc i j hj hlt
    have q3 := inc_as i j hj
    have HYY := Aside0.mk (And.intro hlt (And.intro hy hj))
    have hyl : y < 9223372036854775808 := by rw [hy]; exact xw_half _ _
    have HYL := Aside0.mk hyl
    clear hi hx hy hj hyl
    go_upto_region 8 with (fail)
    clear cx zt f1
    have hA_ : IAt (World.setCell y0 ⟨w.heap.size, i, none⟩ (.int .u64 (y : Int))) (w.heap.size) n i y := HVA.out.set y
    have hT_ : But y0.heap.size (w.heap.size) y0 (World.setCell y0 ⟨w.heap.size, i, none⟩ (.int .u64 (y : Int))) := but_set _ _ _
    generalize (World.setCell y0 ⟨w.heap.size, i, none⟩ (.int .u64 (y : Int))) = y1 at *
    replace HM := Aside0.mk (HM.out.but hT_ (by omega))
    replace HR := Aside0.mk (HR.out.but hT_ (by omega))
    have HIA := Aside0.mk hA_
    replace HB := Aside0.mk (bl_but HB.out hT_ HB.out.size (by omega))
    replace HS := Aside0.mk (Nat.le_trans HS.out hT_.size)
    clear hA_ hT_
    clear HVA
    by_cases h3 : i < 3
    ·obtain ⟨z, hz⟩ : ∃ z, z = xw n j := ⟨_, rfl⟩
     obtain ⟨b, hb⟩ : ∃ b, b = z % 2 := ⟨_, rfl⟩
     have f2 := mod_two z b hb
     have cz := HIA.out.next j (by have := HYY.out.2.2; omega) HYY.out.2.2
     rw [← hz] at cz
     have t3 : (i : Int) < 3 := by omega
     have t4 : (0 : Int) ≤ (j : Int) := Int.natCast_nonneg j
     have t5 : (j : Int) < 4 := by have := HYY.out.2.2; omega
     have HZq := Aside0.mk (And.intro hz (And.intro hb h3))
     rcases bit_two z with hb0 | hb0
     ·have d1 := b_not (b := b) (by rw [hb]; exact hb0)
      have HV0 := Aside0.mk hb0
      clear hz hb h3 hb0
      go_upto_region 6 with (fail)
      clear cz f2 d1 t3 t4 t5
      have HDA : Aside0 (HAt _ (w.heap.size) n j) := Aside0.mk (by rw [HYY.out.2.2]; exact HIA.out.done HYY.out.1 (by rw [HYY.out.2.1]; exact (hword_even _ _ (by rw [← HYY.out.2.2, ← HZq.out.1]; exact HV0.out)).symm))
      go_wp2
      refine ⟨⟨j, ?_, ?_, HDA, HM, HR, HB, HS⟩, ?_⟩
      ·rw [HYY.out.2.2]; exact HYY.out.1
      ·first | rfl | (rw [q2]; done) | (rw [q2]; rfl) | (rw [q3])
      ·first | exact meas4c HYY.out.1 HYY.out.2.2 | (rw [q2]; exact meas4c HYY.out.1 HYY.out.2.2) | (rw [q3]; exact meas4c HYY.out.1 HYY.out.2.2)
     ·have d1 := b_one (b := b) (by rw [hb]; exact hb0)
      have HV0 := Aside0.mk hb0
      clear hz hb h3 hb0
      have cy := HIA.out.cell HYY.out.1
      have zy := HIA.out.free i
      have f3 := wrap_top y HYL.out
      obtain ⟨y2, hy2⟩ : ∃ x, x = y + 9223372036854775808 := ⟨_, rfl⟩
      rw [← hy2] at f3
      have HYq := Aside0.mk hy2
      clear hy2
      go_upto_region 6 with (fail)
      clear cz f2 d1 t3 t4 t5 cy zy f3
      have hA_ : IAt (World.setCell y1 ⟨w.heap.size, i, none⟩ (.int .u64 (y2 : Int))) (w.heap.size) n i y2 := HIA.out.set y2
      have hT_ : But y1.heap.size (w.heap.size) y1 (World.setCell y1 ⟨w.heap.size, i, none⟩ (.int .u64 (y2 : Int))) := but_set _ _ _
      generalize (World.setCell y1 ⟨w.heap.size, i, none⟩ (.int .u64 (y2 : Int))) = y3 at *
      replace HM := Aside0.mk (HM.out.but hT_ (by omega))
      replace HR := Aside0.mk (HR.out.but hT_ (by omega))
      replace HIA := Aside0.mk hA_
      replace HB := Aside0.mk (bl_but HB.out hT_ HB.out.size (by omega))
      replace HS := Aside0.mk (Nat.le_trans HS.out hT_.size)
      clear hA_ hT_
      have HDA : Aside0 (HAt _ (w.heap.size) n j) := Aside0.mk (by rw [HYY.out.2.2]; exact HIA.out.done HYY.out.1 (by rw [HYq.out, HYY.out.2.1]; exact (hword_odd _ _ HZq.out.2.2 (by rw [← HYY.out.2.2, ← HZq.out.1]; exact HV0.out)).symm))
      go_wp2
      refine ⟨⟨j, ?_, ?_, HDA, HM, HR, HB, HS⟩, ?_⟩
      ·rw [HYY.out.2.2]; exact HYY.out.1
      ·first | rfl | (rw [q2]; done) | (rw [q2]; rfl) | (rw [q3])
      ·first | exact meas4c HYY.out.1 HYY.out.2.2 | (rw [q2]; exact meas4c HYY.out.1 HYY.out.2.2) | (rw [q3]; exact meas4c HYY.out.1 HYY.out.2.2)
    ·have t3 : ¬ (i : Int) < 3 := by omega
     have HV0 := Aside0.mk h3
     have t3 : decide ((i : Int) < 3) = false := decide_eq_false t3
     clear h3
     go_upto_region 6 with (fail)
     clear t3
     have HDA : Aside0 (HAt _ (w.heap.size) n j) := Aside0.mk (by rw [HYY.out.2.2]; exact HIA.out.done HYY.out.1 (by rw [HYY.out.2.1]; exact (hword_last _ _ HV0.out).symm))
     go_wp2
     refine ⟨⟨j, ?_, ?_, HDA, HM, HR, HB, HS⟩, ?_⟩
     ·rw [HYY.out.2.2]; exact HYY.out.1
     ·first | rfl | (rw [q2]; done) | (rw [q2]; rfl) | (rw [q3])
     ·first | exact meas4c HYY.out.1 HYY.out.2.2 | (rw [q2]; exact meas4c HYY.out.1 HYY.out.2.2) | (rw [q3]; exact meas4c HYY.out.1 HYY.out.2.2)
   ·have hi4 : i = 4 := by omega
    subst hi4
    have HA := Aside0.mk (HVA.out.num HNN.out)
    clear HVA hi hlt
    rw [show ((4 : Nat) : Int) = 4 from rfl]
    rw [HHH.out] at HA
    cases D with
    | false =>
     have E2 : h = r := F1.out rfl
     rw [E2] at HA
     clear F1 F2 HTW
     go_wp2_with (first | ((with_reducible refine gate_dst (N := 48) rfl ?_); refine ld_num (HA.out.range) rfl _ rfl rfl ?_) | ((with_reducible refine gate_st (y := .tmp 48) rfl ?_); refine st_num (HR.out) rfl _ _ rfl rfl rfl ?_; intro z3 hA3 hT3; replace HA := Aside0.mk (HA.out.but hT3 (by omega)); replace HM := Aside0.mk (HM.out.but hT3 (by omega)); replace HR := Aside0.mk hA3; replace HB := Aside0.mk (bl_but HB.out hT3 HB.out.size (by omega)); replace HS := Aside0.mk (Nat.le_trans HS.out hT3.size); clear hA3 hT3))
     exact bodyPost_ret (v := numV r) (results_nat rfl rfl HR.out) rfl ⟨rfl, HB.out⟩
    | true =>
     have E2 := F2.out rfl
     obtain ⟨l3, hl3⟩ : ∃ l, l = wd3 h + 9223372036854775808 := ⟨_, rfl⟩
     have f3 : IntKind.u64.wrap (((wd3 h : Nat) : Int) + 9223372036854775808) = (l3 : Int) := by rw [hl3]; exact wrap_top _ HTW.out.2.2.2.2.2
     have HTR := Aside0.mk HTW.out.2
     rw [E2, ← hl3] at HTR
     clear F1 F2 hl3 E2 HTW
     have cn := HA.out.cell.2.2.2
     have cz := HA.out.free 3
     go_upto_region 12 with (fail)
     have hA9 : NAt (World.setCell y0 ⟨w.heap.size, 3, none⟩ (.int .u64 (l3 : Int))) (w.heap.size) r := NAt.high HA.out ⟨HTR.out.1, HTR.out.2.1, HTR.out.2.2.1, HTR.out.2.2.2.1⟩
     have hT9 : But y0.heap.size (w.heap.size) y0 (World.setCell y0 ⟨w.heap.size, 3, none⟩ (.int .u64 (l3 : Int))) := but_set _ _ _
     generalize (World.setCell y0 ⟨w.heap.size, 3, none⟩ (.int .u64 (l3 : Int))) = u9 at *
     clear cn cz f3
     replace HM := Aside0.mk (HM.out.but hT9 (by omega))
     replace HR := Aside0.mk (HR.out.but hT9 (by omega))
     replace HA := Aside0.mk hA9
     replace HB := Aside0.mk (bl_but HB.out hT9 HB.out.size (by omega))
     replace HS := Aside0.mk (Nat.le_trans HS.out hT9.size)
     clear hA9 hT9
     go_wp2_with (first | ((with_reducible refine gate_dst (N := 48) rfl ?_); refine ld_num (HA.out.range) rfl _ rfl rfl ?_) | ((with_reducible refine gate_st (y := .tmp 48) rfl ?_); refine st_num (HR.out) rfl _ _ rfl rfl rfl ?_; intro z3 hA3 hT3; replace HA := Aside0.mk (HA.out.but hT3 (by omega)); replace HM := Aside0.mk (HM.out.but hT3 (by omega)); replace HR := Aside0.mk hA3; replace HB := Aside0.mk (bl_but HB.out hT3 HB.out.size (by omega)); replace HS := Aside0.mk (Nat.le_trans HS.out hT3.size); clear hA3 hT3))
     exact bodyPost_ret (v := numV r) (results_nat rfl rfl HR.out) rfl ⟨rfl, HB.out⟩
end Go.Proofs.Ytkfjhndofbmhoaa
