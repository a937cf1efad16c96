/- What the proof of PointRound is made of, part 24. -/
import Derived.Test.YtkfjhndofbmhoaaZPointRound23
import Derived.Test.YtkfjhndofbmhoaaZPointRoundh
namespace Go.Proofs.Ytkfjhndofbmhoaa
open Go.RowKit Go.Proofs.Ytkfjhndofbmhoaa.Arr Go.Proofs.YtkfjhndofbmhoaaW.PrintWords Go.Proofs.YtkfjhndofbmhoaaW.PrintLast Go.Proofs.YtkfjhndofbmhoaaW.PrintMore
attribute [local go_sem high] eqg_num eqg_num0
set_option linter.unusedVariables false
set_option linter.unusedSimpArgs false
def thT (t : Nat × Nat × Nat) : Value := thV t.1 t.2.1 t.2.2
theorem eql_zero {n : Nat} (h : n < N256) (w : World) : (binOp .eql 24 (numV n) (.agg #[.int .u64 0, .int .u64 0, .int .u64 0, .int .u64 0])).run Try.prog w = .ok (.bool (decide (n = 0))) w := eql_num h (b := 0) N256_pos w
theorem pinv_some {gf a v : Nat} (ha : a < pP) (h : invO pP a = some v) (w : World) (hF : CFld w gf) : Calls Try.prog 58 #[.pointer (some ⟨gf, 0, none⟩), numV a] w fun e w' => e = .returned (.tuple #[numV v, .nilIface]) ∧ Below w.heap.size w w' := by
 have := pinv_calls ha w hF
 unfold invV invE at this
 rw [h] at this
 exact this
theorem pinv_none {gf a : Nat} (ha : a < pP) (h : invO pP a = none) (w : World) (hF : CFld w gf) : Calls Try.prog 58 #[.pointer (some ⟨gf, 0, none⟩), numV a] w fun e w' => e = .returned (.tuple #[numV 0, .iface 38 (.int .i64 4)]) ∧ Below w.heap.size w w' := by
 have := pinv_calls ha w hF
 unfold invV invE at this
 rw [h] at this
 exact this
set_option maxRecDepth 100000 in
set_option maxHeartbeats 8000000 in
theorem pfar_calls (x y z : Nat) (hz : z < N256) (w : World) :
  Calls Try.prog 59 #[thV x y z] w fun e w' => e = .returned (.bool (decide (z = 0))) ∧ Below w.heap.size w w' := by
 have hq := fun w => eql_zero hz w
 generalize decide (z = 0) = D at *
 clear hz
 go_enter Try.func59, Try.ntmps59
 go_upto_region 1 with (fail)
 refine wp_at (w2 := (World.alloc w (.cells (hw3 x y z).toArray 62))) rfl ?_
 obtain ⟨x_0, e_0, h_0, b_0, s_0⟩ := new_ThAt w x y z
 rw [e_0]
 have HB : Aside0 (Below w.heap.size w x_0) := Aside0.mk b_0
 have HT : Aside0 (ThAt x_0 (w.heap.size) x y z) := Aside0.mk h_0
 have HS : Aside0 (w.heap.size + 1 ≤ x_0.heap.size) := Aside0.mk (Nat.le_of_eq s_0.symm)
 clear e_0 h_0 b_0 s_0
 obtain ⟨w1, hw_⟩ : ∃ x, x = x_0 := ⟨_, rfl⟩
 subst hw_
 go_wp2_with (first | ((with_reducible refine gate_dst (N := 4) rfl ?_); refine ld_num (HT.out.rz) rfl _ rfl rfl ?_))
 go_ret
 exact ⟨rfl, HB.out⟩
/-- a point by three numbers -/
def liJ (x y : Nat) (f : Bool) : Nat × Nat × Nat := if f then (0, 0, 0) else (x, y, 1)
set_option maxRecDepth 100000 in
set_option maxHeartbeats 8000000 in
theorem plift_calls (x y : Nat) (f : Bool) (w : World) : Calls Try.prog 33 #[ptV x y f] w fun e w' => e = .returned (thT (liJ x y f)) ∧ Below w.heap.size w w' := by
 cases f
 ·show Calls _ _ _ _ (fun e w' => e = .returned (thV x y 1) ∧ Below w.heap.size w w')
  go_enter Try.func33, Try.ntmps33
  go_upto_region 1 with (fail)
  refine wp_at (w2 := (World.alloc (World.alloc w (.cells (pw x y false).toArray 26)) (.cells (hw3 0 0 0).toArray 62))) rfl ?_
  obtain ⟨x_0, e_0, h_0, b_0, s_0⟩ := new_PtAt w x y false
  obtain ⟨x_1, e_1, h_1, b_1, s_1⟩ := new_ThAt x_0 0 0 0
  rw [e_0, e_1]
  rw [s_0] at h_1 s_1
  have HB : Aside0 (Below w.heap.size w x_1) := Aside0.mk (bl_both b_0 b_1)
  have HA : Aside0 (PtAt x_1 (w.heap.size) x y false) := Aside0.mk (h_0.on b_1)
  have HR : Aside0 (ThAt x_1 (w.heap.size + 1) 0 0 0) := Aside0.mk h_1
  have HS : Aside0 (w.heap.size + 1 + 1 ≤ x_1.heap.size) := Aside0.mk (Nat.le_of_eq s_1.symm)
  clear e_0 h_0 b_0 s_0 e_1 h_1 b_1 s_1
  obtain ⟨w1, hw_⟩ : ∃ x, x = x_1 := ⟨_, rfl⟩
  subst hw_
  clear x_0
  have cq0 := HA.out.far
  go_upto_region 3 with (fail)
  clear cq0
  go_wp2_with (first | ((with_reducible refine gate_dst (N := 7) rfl ?_); refine ld_num (HA.out.rx) rfl _ rfl rfl ?_) | ((with_reducible refine gate_dst (N := 9) rfl ?_); refine ld_num (HA.out.ry) rfl _ rfl rfl ?_) | ((with_reducible refine gate_dst (N := 11) rfl ?_); refine bd_th (p := x) (q := y) (r := 1) rfl _ rfl (.tmp 7) (.tmp 9) (.tmp 10) rfl rfl rfl rfl ?_) | ((with_reducible refine gate_st (y := .tmp 11) rfl ?_); (try simp only [aS]); refine st_th (x := x) (y := y) (z := 1) HR.out rfl _ _ rfl rfl rfl ?_; intro u1 hn_ hb_; replace HA := Aside0.mk (HA.out.but hb_ (by omega)); replace HR := Aside0.mk hn_; replace HB := Aside0.mk (bl_but HB.out hb_ HB.out.size (by omega)); replace HS := Aside0.mk (Nat.le_trans HS.out hb_.size); clear hn_ hb_))
  exact bodyPost_ret (v := thV x y 1) (results_th rfl rfl HR.out) rfl ⟨rfl, HB.out⟩
 ·show Calls _ _ _ _ (fun e w' => e = .returned (thV 0 0 0) ∧ Below w.heap.size w w')
  go_enter Try.func33, Try.ntmps33
  go_upto_region 1 with (fail)
  refine wp_at (w2 := (World.alloc (World.alloc w (.cells (pw x y true).toArray 26)) (.cells (hw3 0 0 0).toArray 62))) rfl ?_
  obtain ⟨x_0, e_0, h_0, b_0, s_0⟩ := new_PtAt w x y true
  obtain ⟨x_1, e_1, h_1, b_1, s_1⟩ := new_ThAt x_0 0 0 0
  rw [e_0, e_1]
  rw [s_0] at h_1 s_1
  have HB : Aside0 (Below w.heap.size w x_1) := Aside0.mk (bl_both b_0 b_1)
  have HA : Aside0 (PtAt x_1 (w.heap.size) x y true) := Aside0.mk (h_0.on b_1)
  have HR : Aside0 (ThAt x_1 (w.heap.size + 1) 0 0 0) := Aside0.mk h_1
  have HS : Aside0 (w.heap.size + 1 + 1 ≤ x_1.heap.size) := Aside0.mk (Nat.le_of_eq s_1.symm)
  clear e_0 h_0 b_0 s_0 e_1 h_1 b_1 s_1
  obtain ⟨w1, hw_⟩ : ∃ x, x = x_1 := ⟨_, rfl⟩
  subst hw_
  clear x_0
  have cq0 := HA.out.far
  go_upto_region 2 with (fail)
  clear cq0
  go_wp2_with (first | ((with_reducible refine gate_st (y := .tmp 5) rfl ?_); (try simp only [aS]); refine st_th (x := 0) (y := 0) (z := 0) HR.out rfl _ _ rfl rfl rfl ?_; intro u2 hn_ hb_; replace HA := Aside0.mk (HA.out.but hb_ (by omega)); replace HR := Aside0.mk hn_; replace HB := Aside0.mk (bl_but HB.out hb_ HB.out.size (by omega)); replace HS := Aside0.mk (Nat.le_trans HS.out hb_.size); clear hn_ hb_))
  exact bodyPost_ret (v := thV 0 0 0) (results_th rfl rfl HR.out) rfl ⟨rfl, HB.out⟩
/-- the point of three numbers -/
noncomputable def flJ (x y z : Nat) : Value := match invO pP z with
 | none => ptV 0 0 true
 | some v => ptV (mmp x (mmp v v)) (mmp y (mmp (mmp v v) v)) false
theorem invO_spec {m a v : Nat} (h : invO m a = some v) : isInv m a v := by
 unfold invO at h
 split at h
 ·rename_i h2
  injection h with h
  rw [← h]
  exact Classical.choose_spec h2
 ·cases h
theorem invO_lt {m a v : Nat} (h : invO m a = some v) : v < m := (invO_spec h).1
set_option maxRecDepth 100000 in
set_option maxHeartbeats 8000000 in
theorem pflat_some {gf : Nat} {x y z v : Nat} (b_x : x < pP) (b_y : y < pP) (b_z : z < pP) (hinv : invO pP z = some v) (w : World) (hF : CFld w gf) :
  Calls Try.prog 31 #[cvV gf, thV x y z] w fun e w' => e = .returned (flJ x y z) ∧ Below w.heap.size w w' := by
 have HG : Aside0 (gf < w.heap.size) := Aside0.mk hF.size
 have b_v := invO_lt hinv
 obtain ⟨t1, e_t1⟩ : ∃ t, t = v * v % pP := ⟨_, rfl⟩
 have b_t1 : t1 < pP := by rw [e_t1]; exact mod_p _
 obtain ⟨t2, e_t2⟩ : ∃ t, t = x * t1 % pP := ⟨_, rfl⟩
 have b_t2 : t2 < pP := by rw [e_t2]; exact mod_p _
 obtain ⟨t3, e_t3⟩ : ∃ t, t = t1 * v % pP := ⟨_, rfl⟩
 have b_t3 : t3 < pP := by rw [e_t3]; exact mod_p _
 obtain ⟨t4, e_t4⟩ : ∃ t, t = y * t3 % pP := ⟨_, rfl⟩
 have b_t4 : t4 < pP := by rw [e_t4]; exact mod_p _
 have K1 := Aside0.mk (fun (u : World) (h : CFld u gf) => pinv_some b_z hinv u h)
 have K2 := Aside0.mk (fun (u : World) (h : CFld u gf) => psquare_calls b_v u h)
 have K3 := Aside0.mk (fun (u : World) (h : CFld u gf) => pmul_calls b_x b_t1 u h)
 have K4 := Aside0.mk (fun (u : World) (h : CFld u gf) => pmul_calls b_t1 b_v u h)
 have K5 := Aside0.mk (fun (u : World) (h : CFld u gf) => pmul_calls b_y b_t3 u h)
 rw [← e_t1] at K2
 rw [← e_t2] at K3
 rw [← e_t3] at K4
 rw [← e_t4] at K5
 have hres : flJ x y z = ptV t2 t4 false := by
  unfold flJ
  rw [hinv]
  subst e_t1 e_t2 e_t3 e_t4
  rfl
 rw [hres]
 clear hres
 clear e_t1 e_t2 e_t3 e_t4 b_t1 b_t2 b_t3 b_t4 b_x b_y b_z hinv b_v
 go_enter Try.func31, Try.ntmps31
 go_upto_region 1 with (fail)
 refine wp_at (w2 := (World.alloc (World.alloc (World.alloc w (.cells (cvl gf).toArray 58)) (.cells (hw3 x y z).toArray 62)) (.cells (pw 0 0 false).toArray 26))) rfl ?_
 obtain ⟨x_0, e_0, h_0, b_0, s_0⟩ := new_CvAt w gf
 obtain ⟨x_1, e_1, h_1, b_1, s_1⟩ := new_ThAt x_0 x y z
 obtain ⟨x_2, e_2, h_2, b_2, s_2⟩ := new_PtAt x_1 0 0 false
 rw [e_0, e_1, e_2]
 rw [s_0] at h_1 s_1
 rw [s_1] at h_2 s_2
 have HB : Aside0 (Below w.heap.size w x_2) := Aside0.mk (bl_both (bl_both b_0 b_1) b_2)
 have HC : Aside0 (CvAt x_2 (w.heap.size) gf) := Aside0.mk ((h_0.on b_1).on b_2)
 have HT : Aside0 (ThAt x_2 (w.heap.size + 1) x y z) := Aside0.mk (h_1.on b_2)
 have HR : Aside0 (PtAt x_2 (w.heap.size + 1 + 1) 0 0 false) := Aside0.mk h_2
 have HS : Aside0 (w.heap.size + 1 + 1 + 1 ≤ x_2.heap.size) := Aside0.mk (Nat.le_of_eq s_2.symm)
 have HF := Aside0.mk (hF.on HB.out)
 clear e_0 h_0 b_0 s_0 e_1 h_1 b_1 s_1 e_2 h_2 b_2 s_2 hF
 obtain ⟨w1, hw_⟩ : ∃ x, x = x_2 := ⟨_, rfl⟩
 subst hw_
 clear x_0 x_1
 have cq0 := HC.out.c0
 go_upto_region 2 with (first | ((with_reducible refine gate_dst (N := 12) rfl ?_); refine ld_num (HT.out.rz) rfl _ rfl rfl ?_) | ((with_reducible refine gate_dst (N := 13) rfl ?_); refine goesL_ (some 13) rfl rfl Try.func58 (by kernel_rfl) rfl #[.pointer (some ⟨gf, 0, none⟩), numV z] rfl (by (try simp only [List.map_toArray, List.map_cons, List.map_nil]); first | done | rfl) ?_; (with_reducible refine (K1.out _ (HF.out)).mono ?_); rintro e u3 ⟨rfl, hb_⟩; refine ⟨_, rfl, ?_⟩; replace HC := Aside0.mk (HC.out.on hb_); replace HT := Aside0.mk (HT.out.on hb_); replace HR := Aside0.mk (HR.out.on hb_); replace HF := Aside0.mk (HF.out.on hb_); replace HB := Aside0.mk (bl_on HB.out hb_ HB.out.size); replace HS := Aside0.mk (Nat.le_trans HS.out hb_.size); replace cq0 := HC.out.c0; clear hb_) | ((with_reducible refine gate_dst (N := 5) rfl ?_); refine al_num rfl _ rfl rfl ?_; intro g5 u4 eg_ hn_ hb_; have HXg5 : Aside0 (w.heap.size + 1 + 1 + 1 ≤ g5) := Aside0.mk (by rw [eg_]; exact HS.out); replace HC := Aside0.mk (HC.out.on hb_); replace HT := Aside0.mk (HT.out.on hb_); replace HR := Aside0.mk (HR.out.on hb_); replace HF := Aside0.mk (HF.out.on hb_); replace HB := Aside0.mk (bl_on HB.out hb_ HB.out.size); replace HS := Aside0.mk (Nat.le_trans HS.out hb_.size); replace cq0 := HC.out.c0; have Hg5 := Aside0.mk hn_; clear hn_ hb_ eg_) | ((with_reducible refine gate_st (y := .tmp 14) rfl ?_); (try simp only [aS]); refine st_num Hg5.out rfl _ _ rfl rfl rfl ?_; intro u5 hn_ hb_; replace HC := Aside0.mk (HC.out.but hb_ (by have := HXg5.out; have := HG.out; omega)); replace HT := Aside0.mk (HT.out.but hb_ (by have := HXg5.out; have := HG.out; omega)); replace HR := Aside0.mk (HR.out.but hb_ (by have := HXg5.out; have := HG.out; omega)); replace HF := Aside0.mk (HF.out.but hb_ (by have := HXg5.out; have := HG.out; omega)); replace Hg5 := Aside0.mk hn_; replace HB := Aside0.mk (bl_but HB.out hb_ HB.out.size (by have := HXg5.out; have := HG.out; omega)); replace HS := Aside0.mk (Nat.le_trans HS.out hb_.size); replace cq0 := HC.out.c0; clear hn_ hb_))
 clear cq0
 go_upto_region 5 with (first | ((with_reducible refine gate_dst (N := 19) rfl ?_); refine ld_cv HC.out rfl _ rfl rfl ?_) | ((with_reducible refine gate_dst (N := 20) rfl ?_); refine ld_num (Hg5.out.range) rfl _ rfl rfl ?_) | ((with_reducible refine gate_dst (N := 21) rfl ?_); refine goesL_ (some 21) rfl rfl Try.func55 (by kernel_rfl) rfl #[cvV gf, numV v] rfl (by (try simp only [List.map_toArray, List.map_cons, List.map_nil]); first | done | rfl) ?_; (with_reducible refine (K2.out _ (HF.out)).mono ?_); rintro e u6 ⟨rfl, hb_⟩; refine ⟨_, rfl, ?_⟩; replace HC := Aside0.mk (HC.out.on hb_); replace HT := Aside0.mk (HT.out.on hb_); replace HR := Aside0.mk (HR.out.on hb_); replace Hg5 := Aside0.mk (Hg5.out.on hb_); replace HF := Aside0.mk (HF.out.on hb_); replace HB := Aside0.mk (bl_on HB.out hb_ HB.out.size); replace HS := Aside0.mk (Nat.le_trans HS.out hb_.size); clear hb_) | ((with_reducible refine gate_dst (N := 7) rfl ?_); refine al_num rfl _ rfl rfl ?_; intro g7 u7 eg_ hn_ hb_; have HXg7 : Aside0 (w.heap.size + 1 + 1 + 1 ≤ g7 ∧ g5 < g7) := Aside0.mk (by rw [eg_]; exact ⟨HS.out, Hg5.out.size⟩); replace HC := Aside0.mk (HC.out.on hb_); replace HT := Aside0.mk (HT.out.on hb_); replace HR := Aside0.mk (HR.out.on hb_); replace Hg5 := Aside0.mk (Hg5.out.on hb_); replace HF := Aside0.mk (HF.out.on hb_); replace HB := Aside0.mk (bl_on HB.out hb_ HB.out.size); replace HS := Aside0.mk (Nat.le_trans HS.out hb_.size); have Hg7 := Aside0.mk hn_; clear hn_ hb_ eg_) | ((with_reducible refine gate_st (y := .tmp 21) rfl ?_); (try simp only [aS]); refine st_num Hg7.out rfl _ _ rfl rfl rfl ?_; intro u8 hn_ hb_; replace HC := Aside0.mk (HC.out.but hb_ (by have := HXg5.out; have := HXg7.out; have := HG.out; omega)); replace HT := Aside0.mk (HT.out.but hb_ (by have := HXg5.out; have := HXg7.out; have := HG.out; omega)); replace HR := Aside0.mk (HR.out.but hb_ (by have := HXg5.out; have := HXg7.out; have := HG.out; omega)); replace Hg5 := Aside0.mk (Hg5.out.but hb_ (by have := HXg5.out; have := HXg7.out; have := HG.out; omega)); replace HF := Aside0.mk (HF.out.but hb_ (by have := HXg5.out; have := HXg7.out; have := HG.out; omega)); replace Hg7 := Aside0.mk hn_; replace HB := Aside0.mk (bl_but HB.out hb_ HB.out.size (by have := HXg5.out; have := HXg7.out; have := HG.out; omega)); replace HS := Aside0.mk (Nat.le_trans HS.out hb_.size); clear hn_ hb_))
 refine start_ (n := 18) (S := fun w' => Below u8.heap.size u8 w' ∧ w'.cell? ⟨w.heap.size, 3, none⟩ = some (mthV 53 gf)) (ds := [17]) (bs 18 0) (by kernel_rfl) rfl rfl ⟨(Below.refl _ _).drew, HC.out.c3⟩ (fun hHeld => ?_)
 refine pu_ 0 22 (bs 18 1) ?_ ?_ ?_ ?_ ?_
 rotate_left
 ·intro w'
  go_simp
  with_reducible rfl
 rotate_left
 ·simp only [aS, i64_w, i32_w]
  rfl
 refine pu_ 2 24 (bs 18 5) ?_ ?_ ?_ ?_ ?_
 rotate_left
 ·intro w'
  go_simp
  with_reducible rfl
 rotate_left
 ·simp only [aS, i64_w, i32_w]
  rfl
 refine pu_ 6 28 (bs 18 69) ?_ ?_ ?_ ?_ ?_
 rotate_left
 ·intro w'
  go_simp
  with_reducible rfl
 rotate_left
 ·simp only [aS, i64_w, i32_w]
  rfl
 refine pu_ 8 30 (bs 18 325) ?_ ?_ ?_ ?_ ?_
 rotate_left
 ·intro w'
  go_simp
  with_reducible rfl
 rotate_left
 ·simp only [aS, i64_w, i32_w]
  rfl
 refine pu_ 10 32 (bs 18 1349) ?_ ?_ ?_ ?_ ?_
 rotate_left
 ·intro w'
  go_simp
  with_reducible rfl
 rotate_left
 ·simp only [aS, i64_w, i32_w]
  rfl
 refine tk_ 1 23 (bs 18 1351) ?_ ?_ hHeld ?_ ?_ ?_
 rotate_left
 ·rintro w' ⟨s0, s1⟩
  go_simp
  with_reducible rfl
 rotate_left
 ·simp only [aS, i64_w, i32_w]
  rfl
 refine take_ (i := 3) (N := some 25) (a' := ?_) (bs 18 1359) rfl rfl (by kernel_rfl) (fun _ _ _ h => h) (yields_num (g := w.heap.size + 1) (o := 0) (n := x) (by rfl) (.tmp 24) rfl rfl (fun w' hS => (HT.out.on hS.1).rx)) hHeld ?_ ?_
 rotate_left
 ·simp only [aS, i64_w, i32_w]
  rfl
 refine take_ (i := 4) (N := some 26) (a' := ?_) (bs 18 1375) rfl rfl (by kernel_rfl) (fun _ _ _ h => h) (yields_num (g := g7) (o := 0) (n := t1) (by rfl) (.tmp 7) rfl rfl (fun w' hS => (Hg7.out.on hS.1).range)) hHeld ?_ ?_
 rotate_left
 ·simp only [aS, i64_w, i32_w]
  rfl
 refine tk_ 7 29 (bs 18 1503) ?_ ?_ hHeld ?_ ?_ ?_
 rotate_left
 ·rintro w' ⟨s0, s1⟩
  go_simp
  with_reducible rfl
 rotate_left
 ·simp only [aS, i64_w, i32_w]
  rfl
 refine take_ (i := 9) (N := some 31) (a' := ?_) (bs 18 2015) rfl rfl (by kernel_rfl) (fun _ _ _ h => h) (yields_num (g := w.heap.size + 1) (o := 4) (n := y) (by rfl) (.tmp 30) rfl rfl (fun w' hS => (HT.out.on hS.1).ry)) hHeld ?_ ?_
 rotate_left
 ·simp only [aS, i64_w, i32_w]
  rfl
 refine tk_ 11 33 (bs 18 4063) ?_ ?_ hHeld ?_ ?_ ?_
 rotate_left
 ·rintro w' ⟨s0, s1⟩
  go_simp
  with_reducible rfl
 rotate_left
 ·simp only [aS, i64_w, i32_w]
  rfl
 refine take_ (i := 12) (N := some 34) (a' := ?_) (bs 18 8159) rfl rfl (by kernel_rfl) (fun _ _ _ h => h) (yields_num (g := g7) (o := 0) (n := t1) (by rfl) (.tmp 7) rfl rfl (fun w' hS => (Hg7.out.on hS.1).range)) hHeld ?_ ?_
 rotate_left
 ·simp only [aS, i64_w, i32_w]
  rfl
 refine take_ (i := 13) (N := some 35) (a' := ?_) (bs 18 16351) rfl rfl (by kernel_rfl) (fun _ _ _ h => h) (yields_num (g := g5) (o := 0) (n := v) (by rfl) (.tmp 5) rfl rfl (fun w' hS => (Hg5.out.on hS.1).range)) hHeld ?_ ?_
 rotate_left
 ·simp only [aS, i64_w, i32_w]
  rfl
 refine on1_ 5 (some 27) (bs 18 16383) rfl fun K hK => ?_
 refine gF_ Try.func53 gf (numV x) (numV t1) rfl ?_
 with_reducible refine (K3.out _ (HF.out.on hHeld.1)).mono ?_
 rintro e u9 ⟨rfl, hb_u9⟩
 refine ⟨_, rfl, ?_⟩
 have hq_u9 := bl_on hHeld.1 hb_u9 hHeld.1.size
 refine hK.out _ _ ⟨hq_u9, (HC.out.on (hq_u9)).c3⟩ (fun hHeld => ?_)
 clear hK K
 refine nm_ (some 27) ?_
 refine on1_ 14 (some 36) (bs 18 32767) rfl fun K hK => ?_
 refine gF_ Try.func53 gf (numV t1) (numV v) rfl ?_
 with_reducible refine (K4.out _ (HF.out.on hHeld.1)).mono ?_
 rintro e u10 ⟨rfl, hb_u10⟩
 refine ⟨_, rfl, ?_⟩
 have hq_u10 := bl_on hHeld.1 hb_u10 hHeld.1.size
 refine hK.out _ _ ⟨hq_u10, (HC.out.on (hq_u10)).c3⟩ (fun hHeld => ?_)
 clear hK K
 refine nm_ (some 36) ?_
 refine on1_ 15 (some 37) (bs 18 65535) rfl fun K hK => ?_
 refine gF_ Try.func53 gf (numV y) (numV t3) rfl ?_
 with_reducible refine (K5.out _ (HF.out.on hHeld.1)).mono ?_
 rintro e u11 ⟨rfl, hb_u11⟩
 refine ⟨_, rfl, ?_⟩
 have hq_u11 := bl_on hHeld.1 hb_u11 hHeld.1.size
 refine hK.out _ _ ⟨hq_u11, (HC.out.on (hq_u11)).c3⟩ (fun hHeld => ?_)
 clear hK K
 refine nm_ (some 37) ?_
 refine on1_ 16 (some 38) (bs 18 131071) rfl fun K hK => ?_
 refine value_ (w1 := _) (v := ptV t2 t4 false) (by rfl) rfl (rb_pt _ (.tmp 27) (.tmp 37) rfl rfl rfl) ?_
 refine hK.out _ _ ⟨hHeld.1, hHeld.2⟩ (fun hHeld => ?_)
 clear hK K
 refine nm_ (some 38) ?_
 refine last_ (i := 17) (N := none) (bs 18 262143) rfl rfl (by kernel_rfl) (by decide) (fun K hK => ?_)
 refine skip_pt (x := t2) (y := t4) (f := false) (HR.out.on hHeld.1) (by rfl) rfl (.tmp 4) (.tmp 38) rfl rfl rfl ?_
 intro q12 hA_q12 hT_q12
 refine hK.out _ _ ?_
 clear hK K
 refine done_ (by kernel_rfl) ?_
 replace HC := Aside0.mk (HC.out.on hHeld.1)
 replace HT := Aside0.mk (HT.out.on hHeld.1)
 replace HR := Aside0.mk (HR.out.on hHeld.1)
 replace Hg5 := Aside0.mk (Hg5.out.on hHeld.1)
 replace Hg7 := Aside0.mk (Hg7.out.on hHeld.1)
 replace HF := Aside0.mk (HF.out.on hHeld.1)
 replace HB := Aside0.mk (bl_on HB.out hHeld.1 HB.out.size)
 replace HS := Aside0.mk (Nat.le_trans HS.out hHeld.1.size)
 replace HC := Aside0.mk (HC.out.but hT_q12 (by have := HXg5.out; have := HXg7.out; have := HG.out; omega))
 replace HT := Aside0.mk (HT.out.but hT_q12 (by have := HXg5.out; have := HXg7.out; have := HG.out; omega))
 replace Hg5 := Aside0.mk (Hg5.out.but hT_q12 (by have := HXg5.out; have := HXg7.out; have := HG.out; omega))
 replace Hg7 := Aside0.mk (Hg7.out.but hT_q12 (by have := HXg5.out; have := HXg7.out; have := HG.out; omega))
 replace HF := Aside0.mk (HF.out.but hT_q12 (by have := HXg5.out; have := HXg7.out; have := HG.out; omega))
 replace HR := Aside0.mk hA_q12
 replace HB := Aside0.mk (bl_but HB.out hT_q12 HB.out.size (by have := HXg5.out; have := HXg7.out; have := HG.out; omega))
 replace HS := Aside0.mk (Nat.le_trans HS.out hT_q12.size)
 clear hA_q12 hT_q12 hb_u9 hb_u10 hb_u11 hHeld
 go_wp2
 exact bodyPost_ret (v := ptV t2 t4 false) (results_pt rfl rfl HR.out) rfl ⟨rfl, HB.out⟩
set_option maxRecDepth 100000 in
set_option maxHeartbeats 8000000 in
theorem pflat_none {gf : Nat} {x y z : Nat} (b_x : x < pP) (b_y : y < pP) (b_z : z < pP) (hinv : invO pP z = none) (w : World) (hF : CFld w gf) :
  Calls Try.prog 31 #[cvV gf, thV x y z] w fun e w' => e = .returned (flJ x y z) ∧ Below w.heap.size w w' := by
 have HG : Aside0 (gf < w.heap.size) := Aside0.mk hF.size
 have K1 := Aside0.mk (fun (u : World) (h : CFld u gf) => pinv_none b_z hinv u h)
 have hres : flJ x y z = ptV 0 0 true := by
  unfold flJ
  rw [hinv]
 rw [hres]
 clear hres
 clear b_x b_y b_z hinv
 go_enter Try.func31, Try.ntmps31
 go_upto_region 1 with (fail)
 refine wp_at (w2 := (World.alloc (World.alloc (World.alloc w (.cells (cvl gf).toArray 58)) (.cells (hw3 x y z).toArray 62)) (.cells (pw 0 0 false).toArray 26))) rfl ?_
 obtain ⟨x_0, e_0, h_0, b_0, s_0⟩ := new_CvAt w gf
 obtain ⟨x_1, e_1, h_1, b_1, s_1⟩ := new_ThAt x_0 x y z
 obtain ⟨x_2, e_2, h_2, b_2, s_2⟩ := new_PtAt x_1 0 0 false
 rw [e_0, e_1, e_2]
 rw [s_0] at h_1 s_1
 rw [s_1] at h_2 s_2
 have HB : Aside0 (Below w.heap.size w x_2) := Aside0.mk (bl_both (bl_both b_0 b_1) b_2)
 have HC : Aside0 (CvAt x_2 (w.heap.size) gf) := Aside0.mk ((h_0.on b_1).on b_2)
 have HT : Aside0 (ThAt x_2 (w.heap.size + 1) x y z) := Aside0.mk (h_1.on b_2)
 have HR : Aside0 (PtAt x_2 (w.heap.size + 1 + 1) 0 0 false) := Aside0.mk h_2
 have HS : Aside0 (w.heap.size + 1 + 1 + 1 ≤ x_2.heap.size) := Aside0.mk (Nat.le_of_eq s_2.symm)
 have HF := Aside0.mk (hF.on HB.out)
 clear e_0 h_0 b_0 s_0 e_1 h_1 b_1 s_1 e_2 h_2 b_2 s_2 hF
 obtain ⟨w1, hw_⟩ : ∃ x, x = x_2 := ⟨_, rfl⟩
 subst hw_
 clear x_0 x_1
 have cq0 := HC.out.c0
 go_upto_region 2 with (first | ((with_reducible refine gate_dst (N := 12) rfl ?_); refine ld_num (HT.out.rz) rfl _ rfl rfl ?_) | ((with_reducible refine gate_dst (N := 13) rfl ?_); refine goesL_ (some 13) rfl rfl Try.func58 (by kernel_rfl) rfl #[.pointer (some ⟨gf, 0, none⟩), numV z] rfl (by (try simp only [List.map_toArray, List.map_cons, List.map_nil]); first | done | rfl) ?_; (with_reducible refine (K1.out _ (HF.out)).mono ?_); rintro e u13 ⟨rfl, hb_⟩; refine ⟨_, rfl, ?_⟩; replace HC := Aside0.mk (HC.out.on hb_); replace HT := Aside0.mk (HT.out.on hb_); replace HR := Aside0.mk (HR.out.on hb_); replace HF := Aside0.mk (HF.out.on hb_); replace HB := Aside0.mk (bl_on HB.out hb_ HB.out.size); replace HS := Aside0.mk (Nat.le_trans HS.out hb_.size); replace cq0 := HC.out.c0; clear hb_) | ((with_reducible refine gate_dst (N := 5) rfl ?_); refine al_num rfl _ rfl rfl ?_; intro g5 u14 eg_ hn_ hb_; have HXg5 : Aside0 (w.heap.size + 1 + 1 + 1 ≤ g5) := Aside0.mk (by rw [eg_]; exact HS.out); replace HC := Aside0.mk (HC.out.on hb_); replace HT := Aside0.mk (HT.out.on hb_); replace HR := Aside0.mk (HR.out.on hb_); replace HF := Aside0.mk (HF.out.on hb_); replace HB := Aside0.mk (bl_on HB.out hb_ HB.out.size); replace HS := Aside0.mk (Nat.le_trans HS.out hb_.size); replace cq0 := HC.out.c0; have Hg5 := Aside0.mk hn_; clear hn_ hb_ eg_) | ((with_reducible refine gate_st (y := .tmp 14) rfl ?_); (try simp only [aS]); refine st_num Hg5.out rfl _ _ rfl rfl rfl ?_; intro u15 hn_ hb_; replace HC := Aside0.mk (HC.out.but hb_ (by have := HXg5.out; have := HG.out; omega)); replace HT := Aside0.mk (HT.out.but hb_ (by have := HXg5.out; have := HG.out; omega)); replace HR := Aside0.mk (HR.out.but hb_ (by have := HXg5.out; have := HG.out; omega)); replace HF := Aside0.mk (HF.out.but hb_ (by have := HXg5.out; have := HG.out; omega)); replace Hg5 := Aside0.mk hn_; replace HB := Aside0.mk (bl_but HB.out hb_ HB.out.size (by have := HXg5.out; have := HG.out; omega)); replace HS := Aside0.mk (Nat.le_trans HS.out hb_.size); replace cq0 := HC.out.c0; clear hn_ hb_))
 clear cq0
 go_wp2_with (first | ((with_reducible refine gate_st (y := .tmp 18) rfl ?_); (try simp only [aS]); refine st_pt (x := 0) (y := 0) (f := true) HR.out rfl _ _ rfl rfl rfl ?_; intro u16 hn_ hb_; replace HC := Aside0.mk (HC.out.but hb_ (by have := HXg5.out; have := HG.out; omega)); replace HT := Aside0.mk (HT.out.but hb_ (by have := HXg5.out; have := HG.out; omega)); replace Hg5 := Aside0.mk (Hg5.out.but hb_ (by have := HXg5.out; have := HG.out; omega)); replace HF := Aside0.mk (HF.out.but hb_ (by have := HXg5.out; have := HG.out; omega)); replace HR := Aside0.mk hn_; replace HB := Aside0.mk (bl_but HB.out hb_ HB.out.size (by have := HXg5.out; have := HG.out; omega)); replace HS := Aside0.mk (Nat.le_trans HS.out hb_.size); clear hn_ hb_))
 exact bodyPost_ret (v := ptV 0 0 true) (results_pt rfl rfl HR.out) rfl ⟨rfl, HB.out⟩
theorem pflat_calls {gf : Nat} {x y z : Nat} (b_x : x < pP) (b_y : y < pP) (b_z : z < pP) (w : World) (hF : CFld w gf) :
  Calls Try.prog 31 #[cvV gf, thV x y z] w fun e w' => e = .returned (flJ x y z) ∧ Below w.heap.size w w' := by
 cases h : invO pP z with
 | none => exact pflat_none b_x b_y b_z h w hF
 | some v => exact pflat_some b_x b_y b_z h w hF
end Go.Proofs.Ytkfjhndofbmhoaa
