/- What the proof of PointMultiples is made of, part 31. -/
import Derived.Test.YtkfjhndofbmhoaaZPointMultiples29
import Derived.Test.YtkfjhndofbmhoaaZPointMultiples30
import Derived.Test.YtkfjhndofbmhoaaZPointMultiplesh
namespace Go.Proofs.Ytkfjhndofbmhoaa
open Go.RowKit Go.Proofs.Ytkfjhndofbmhoaa.Arr Go.Proofs.YtkfjhndofbmhoaaW.PrintWords Go.Proofs.YtkfjhndofbmhoaaW.PrintLast Go.Proofs.YtkfjhndofbmhoaaW.PrintMore
attribute [local go_sem high] eqg_num eqg_num0 eqg_pt
set_option linter.unusedVariables false
set_option linter.unusedSimpArgs false
theorem bt_ptf (p q : Nat) (r : Bool) : Try.prog.built 26 [(0, numV p), (1, numV q), (2, .bool r)] = some (pw p q r).toArray := by kernel_rfl
theorem rb_ptf {op : Oper} {a : Act} {p q : Nat} {r : Bool} (w : World) (x_ y_ z_ : Operand) (ho : op.op = .build 26 #[(0, x_), (1, y_), (2, z_)]) (hx : a.eval x_ = numV p) (hy : a.eval y_ = numV q) (hz : a.eval z_ = .bool r) : (execOp a.eval op).run Try.prog w = .ok (.value (ptV p q r)) w := by
  unfold execOp
  rw [ho]
  have h := run_build w 26 #[(0, numV p), (1, numV q), (2, .bool r)] _ (bt_ptf p q r)
  simp only [List.map_toArray, List.map_cons, List.map_nil, hx, hy, hz, Sem.run_bind, h, Result.andThen_ok]
  rfl
theorem rinv_some {a v : Nat} (h : invO pP a = some v) (ha : a < pP) (w : World) : Calls Try.prog 39 #[numV a, numV pP] w fun e w' => e = .returned (.tuple #[numV v, .bool true]) ∧ Below w.heap.size w w' :=
  (rinv_calls a pP w pP_lt pP_odd pP_one ha).mono (fun e w' hh => by
    obtain ⟨⟨y, b, rfl, h1, h2⟩, hb⟩ := hh
    cases b with
    | false =>
      have := h2 rfl
      rw [h] at this
      cases this
    | true =>
      have := h1 rfl
      rw [h] at this
      injection this with this
      subst this
      exact ⟨rfl, hb⟩)
set_option maxRecDepth 100000 in
set_option maxHeartbeats 8000000 in
theorem rneg_calls (x : Nat) {y : Nat} (b_y : y < pP) (f : Bool) (w : World) :
    Calls Try.prog 20 #[ptV x y f] w fun e w' => e = .returned (ptV x ((0 + pP - y) % pP) f) ∧ Below w.heap.size w w' := by
  obtain ⟨t1, e_t1⟩ : ∃ t, t = (0 + pP - y) % pP := ⟨_, rfl⟩
  have b_t1 : t1 < pP := by rw [e_t1]; exact mod_p _
  have K1 := Aside0.mk (fun (u : World) => rps_calls (show 0 < pP by decide +kernel) b_y u)
  rw [← e_t1] at K1
  have hres : (0 + pP - y) % pP = t1 := by subst e_t1; rfl
  rw [hres]
  clear hres e_t1 b_t1 b_y
  go_enter Try.func20, Try.ntmps20
  go_upto_region 1 with (fail)
  refine wp_at (w2 := (World.alloc (World.alloc w (.cells (pw x y f).toArray 26)) (.cells (pw 0 0 false).toArray 26))) rfl ?_
  obtain ⟨x_0, e_0, h_0, b_0, s_0⟩ := new_PtAt w x y f
  obtain ⟨x_1, e_1, h_1, b_1, s_1⟩ := new_PtAt x_0 0 0 false
  rw [e_0, e_1]
  rw [s_0] at h_1 s_1
  have HB : Aside0 (Below w.heap.size w x_1) := Aside0.mk (bl_both b_0 b_1)
  have HA : Aside0 (PtAt x_1 (w.heap.size) x y f) := Aside0.mk (h_0.on b_1)
  have HR : Aside0 (PtAt x_1 (w.heap.size + 1) 0 0 false) := Aside0.mk h_1
  have HS : Aside0 (w.heap.size + 1 + 1 ≤ x_1.heap.size) := Aside0.mk (Nat.le_of_eq s_1.symm)
  clear e_0 h_0 b_0 s_0 e_1 h_1 b_1 s_1
  obtain ⟨w1, hw_⟩ : ∃ x, x = x_1 := ⟨_, rfl⟩
  subst hw_
  clear x_0
  refine start_ (n := 10) (S := fun w' => Below w1.heap.size w1 w' ∧ w'.cell? ⟨w.heap.size, 8, none⟩ = some (.bool f)) (ds := [9]) (bs 10 0) (by kernel_rfl) rfl rfl ⟨(Below.refl _ _).drew, HA.out.far⟩ (fun hHeld => ?_)
  refine pu_ 0 3 (bs 10 1) ?_ ?_ ?_ ?_ ?_
  rotate_left
  · intro w'
    go_simp
    with_reducible rfl
  rotate_left
  · simp only [aS, i64_w, i32_w]
    rfl
  refine pu_ 2 5 (bs 10 5) ?_ ?_ ?_ ?_ ?_
  rotate_left
  · intro w'
    go_simp
    with_reducible rfl
  rotate_left
  · simp only [aS, i64_w, i32_w]
    rfl
  refine pu_ 3 6 (bs 10 13) ?_ ?_ ?_ ?_ ?_
  rotate_left
  · intro w'
    go_simp
    with_reducible rfl
  rotate_left
  · simp only [aS, i64_w, i32_w]
    rfl
  refine pu_ 6 9 (bs 10 77) ?_ ?_ ?_ ?_ ?_
  rotate_left
  · intro w'
    go_simp
    with_reducible rfl
  rotate_left
  · simp only [aS, i64_w, i32_w]
    rfl
  refine take_ (i := 1) (N := some 4) (a' := ?_) (bs 10 79) rfl rfl (by kernel_rfl) (fun _ _ _ h => h) (yields_num (g := w.heap.size) (o := 0) (n := x) (by rfl) (.tmp 3) rfl rfl (fun w' hS => (HA.out.on hS.1).rx)) hHeld ?_ ?_
  rotate_left
  · simp only [aS, i64_w, i32_w]
    rfl
  refine take_ (i := 4) (N := some 7) (a' := ?_) (bs 10 95) rfl rfl (by kernel_rfl) (fun _ _ _ h => h) (yields_num (g := w.heap.size) (o := 4) (n := y) (by rfl) (.tmp 6) rfl rfl (fun w' hS => (HA.out.on hS.1).ry)) hHeld ?_ ?_
  rotate_left
  · simp only [aS, i64_w, i32_w]
    rfl
  refine tk_ 7 10 (bs 10 223) ?_ ?_ hHeld ?_ ?_ ?_
  rotate_left
  · rintro w' ⟨s0, s1⟩
    go_simp
    with_reducible rfl
  rotate_left
  · simp only [aS, i64_w, i32_w]
    rfl
  refine on1_ 5 (some 8) (bs 10 255) rfl fun K hK => ?_
  refine gs_ Try.func37 #[numV 0, numV y] rfl ?_
  with_reducible refine (K1.out _).mono ?_
  rintro e u1 ⟨rfl, hb_u1⟩
  refine ⟨_, rfl, ?_⟩
  have hq_u1 := bl_on hHeld.1 hb_u1 hHeld.1.size
  refine hK.out _ _ ⟨hq_u1, (HA.out.on (hq_u1)).far⟩ (fun hHeld => ?_)
  clear hK K
  refine nm_ (some 8) ?_
  refine on1_ 8 (some 11) (bs 10 511) rfl fun K hK => ?_
  refine value_ (w1 := _) (v := ptV x t1 f) (by rfl) rfl (rb_ptf _ (.tmp 4) (.tmp 8) (.tmp 10) rfl rfl rfl rfl) ?_
  refine hK.out _ _ ⟨hHeld.1, hHeld.2⟩ (fun hHeld => ?_)
  clear hK K
  refine nm_ (some 11) ?_
  refine last_ (i := 9) (N := none) (bs 10 1023) rfl rfl (by kernel_rfl) (by decide) (fun K hK => ?_)
  refine skip_pt (x := x) (y := t1) (f := f) (HR.out.on hHeld.1) (by rfl) rfl (.tmp 2) (.tmp 11) rfl rfl rfl ?_
  intro q2 hA_q2 hT_q2
  refine hK.out _ _ ?_
  clear hK K
  refine done_ (by kernel_rfl) ?_
  replace HA := Aside0.mk (HA.out.on hHeld.1)
  replace HR := Aside0.mk (HR.out.on hHeld.1)
  replace HB := Aside0.mk (bl_on HB.out hHeld.1 HB.out.size)
  replace HS := Aside0.mk (Nat.le_trans HS.out hHeld.1.size)
  replace HA := Aside0.mk (HA.out.but hT_q2 (by omega))
  replace HR := Aside0.mk hA_q2
  replace HB := Aside0.mk (bl_but HB.out hT_q2 HB.out.size (by omega))
  replace HS := Aside0.mk (Nat.le_trans HS.out hT_q2.size)
  clear hA_q2 hT_q2 hb_u1 hHeld
  go_wp2
  exact bodyPost_ret (v := ptV x t1 f) (results_pt rfl rfl HR.out) rfl ⟨rfl, HB.out⟩
set_option maxRecDepth 100000 in
set_option maxHeartbeats 8000000 in
theorem radd_far1 (x1 y1 x2 y2 : Nat) (f2 : Bool) (w : World) :
    Calls Try.prog 21 #[ptV x1 y1 true, ptV x2 y2 f2] w fun e w' => e = .returned (ptV x2 y2 f2) ∧ Below w.heap.size w w' := by
  go_enter Try.func21, Try.ntmps21
  go_upto_region 1 with (fail)
  refine wp_at (w2 := (World.alloc (World.alloc (World.alloc w (.cells (pw x1 y1 true).toArray 26)) (.cells (pw x2 y2 f2).toArray 26)) (.cells (pw 0 0 false).toArray 26))) rfl ?_
  obtain ⟨x_0, e_0, h_0, b_0, s_0⟩ := new_PtAt w x1 y1 true
  obtain ⟨x_1, e_1, h_1, b_1, s_1⟩ := new_PtAt x_0 x2 y2 f2
  obtain ⟨x_2, e_2, h_2, b_2, s_2⟩ := new_PtAt x_1 0 0 false
  rw [e_0, e_1, e_2]
  rw [s_0] at h_1 s_1
  rw [s_1] at h_2 s_2
  have HB : Aside0 (Below w.heap.size w x_2) := Aside0.mk (bl_both (bl_both b_0 b_1) b_2)
  have HA : Aside0 (PtAt x_2 (w.heap.size) x1 y1 true) := Aside0.mk ((h_0.on b_1).on b_2)
  have HC : Aside0 (PtAt x_2 (w.heap.size + 1) x2 y2 f2) := Aside0.mk (h_1.on b_2)
  have HR : Aside0 (PtAt x_2 (w.heap.size + 1 + 1) 0 0 false) := Aside0.mk h_2
  have HS : Aside0 (w.heap.size + 1 + 1 + 1 ≤ x_2.heap.size) := Aside0.mk (Nat.le_of_eq s_2.symm)
  clear e_0 h_0 b_0 s_0 e_1 h_1 b_1 s_1 e_2 h_2 b_2 s_2
  obtain ⟨w1, hw_⟩ : ∃ x, x = x_2 := ⟨_, rfl⟩
  subst hw_
  clear x_0 x_1
  have cq0 := HA.out.far
  go_upto_region 2 with (fail)
  clear cq0
  go_wp2_with (first | ((with_reducible refine gate_dst (N := 13) rfl ?_); refine ld_pt HC.out rfl _ rfl rfl ?_) | ((with_reducible refine gate_st (y := .tmp 13) rfl ?_); (try simp only [aS]); refine st_pt (x := x2) (y := y2) (f := f2) HR.out rfl _ _ rfl rfl rfl ?_; intro u3 hn_ hb_; replace HA := Aside0.mk (HA.out.but hb_ (by omega)); replace HC := Aside0.mk (HC.out.but hb_ (by omega)); replace HR := Aside0.mk hn_; replace HB := Aside0.mk (bl_but HB.out hb_ HB.out.size (by omega)); replace HS := Aside0.mk (Nat.le_trans HS.out hb_.size); clear hn_ hb_))
  exact bodyPost_ret (v := ptV x2 y2 f2) (results_pt rfl rfl HR.out) rfl ⟨rfl, HB.out⟩
set_option maxRecDepth 100000 in
set_option maxHeartbeats 8000000 in
theorem radd_far2 (x1 y1 x2 y2 : Nat) (w : World) :
    Calls Try.prog 21 #[ptV x1 y1 false, ptV x2 y2 true] w fun e w' => e = .returned (ptV x1 y1 false) ∧ Below w.heap.size w w' := by
  go_enter Try.func21, Try.ntmps21
  go_upto_region 1 with (fail)
  refine wp_at (w2 := (World.alloc (World.alloc (World.alloc w (.cells (pw x1 y1 false).toArray 26)) (.cells (pw x2 y2 true).toArray 26)) (.cells (pw 0 0 false).toArray 26))) rfl ?_
  obtain ⟨x_0, e_0, h_0, b_0, s_0⟩ := new_PtAt w x1 y1 false
  obtain ⟨x_1, e_1, h_1, b_1, s_1⟩ := new_PtAt x_0 x2 y2 true
  obtain ⟨x_2, e_2, h_2, b_2, s_2⟩ := new_PtAt x_1 0 0 false
  rw [e_0, e_1, e_2]
  rw [s_0] at h_1 s_1
  rw [s_1] at h_2 s_2
  have HB : Aside0 (Below w.heap.size w x_2) := Aside0.mk (bl_both (bl_both b_0 b_1) b_2)
  have HA : Aside0 (PtAt x_2 (w.heap.size) x1 y1 false) := Aside0.mk ((h_0.on b_1).on b_2)
  have HC : Aside0 (PtAt x_2 (w.heap.size + 1) x2 y2 true) := Aside0.mk (h_1.on b_2)
  have HR : Aside0 (PtAt x_2 (w.heap.size + 1 + 1) 0 0 false) := Aside0.mk h_2
  have HS : Aside0 (w.heap.size + 1 + 1 + 1 ≤ x_2.heap.size) := Aside0.mk (Nat.le_of_eq s_2.symm)
  clear e_0 h_0 b_0 s_0 e_1 h_1 b_1 s_1 e_2 h_2 b_2 s_2
  obtain ⟨w1, hw_⟩ : ∃ x, x = x_2 := ⟨_, rfl⟩
  subst hw_
  clear x_0 x_1
  have cq0 := HA.out.far
  go_upto_region 3 with (fail)
  clear cq0
  have cq0 := HC.out.far
  go_upto_region 4 with (fail)
  clear cq0
  go_wp2_with (first | ((with_reducible refine gate_dst (N := 16) rfl ?_); refine ld_pt HA.out rfl _ rfl rfl ?_) | ((with_reducible refine gate_st (y := .tmp 16) rfl ?_); (try simp only [aS]); refine st_pt (x := x1) (y := y1) (f := false) HR.out rfl _ _ rfl rfl rfl ?_; intro u4 hn_ hb_; replace HA := Aside0.mk (HA.out.but hb_ (by omega)); replace HC := Aside0.mk (HC.out.but hb_ (by omega)); replace HR := Aside0.mk hn_; replace HB := Aside0.mk (bl_but HB.out hb_ HB.out.size (by omega)); replace HS := Aside0.mk (Nat.le_trans HS.out hb_.size); clear hn_ hb_))
  exact bodyPost_ret (v := ptV x1 y1 false) (results_pt rfl rfl HR.out) rfl ⟨rfl, HB.out⟩
set_option maxRecDepth 100000 in
set_option maxHeartbeats 8000000 in
theorem radd_opp {x1 y1 x2 y2 : Nat} (b_x1 : x1 < pP) (b_y1 : y1 < pP) (b_x2 : x2 < pP) (b_y2 : y2 < pP) (hopp : x1 = x2 ∧ y1 = (0 + pP - y2) % pP) (w : World) :
    Calls Try.prog 21 #[ptV x1 y1 false, ptV x2 y2 false] w fun e w' => e = .returned (ptV 0 0 true) ∧ Below w.heap.size w w' := by
  obtain ⟨t1, e_t1⟩ : ∃ t, t = (0 + pP - y2) % pP := ⟨_, rfl⟩
  have b_t1 : t1 < pP := by rw [e_t1]; exact mod_p _
  have K1 := Aside0.mk (fun (u : World) => rneg_calls x2 b_y2 false  u)
  rw [← e_t1] at hopp
  have hq : ∀ w, (binOp .eql 26 (.agg (pw x1 y1 false).toArray) (ptV x2 t1 false)).run Try.prog w = .ok (.bool true) w := fun w => by
    have h := eql_pt (lt_N b_x1) (lt_N b_y1) (lt_N b_x2) (lt_N b_t1) false false w
    rw [decide_eq_true ⟨hopp.1, hopp.2, rfl⟩] at h
    exact h
  have hg : ∀ w x_ y_, (eqGuard .eql 26 x_ y_ (.agg (pw x1 y1 false).toArray) (ptV x2 t1 false)).run Try.prog w = .ok () w := fun w x_ y_ => eqg_pt .eql x_ y_ x1 y1 x2 t1 false false w
  rw [← e_t1] at K1
  clear e_t1 b_t1 hopp b_x1 b_y1 b_x2 b_y2
  go_enter Try.func21, Try.ntmps21
  go_upto_region 1 with (fail)
  refine wp_at (w2 := (World.alloc (World.alloc (World.alloc w (.cells (pw x1 y1 false).toArray 26)) (.cells (pw x2 y2 false).toArray 26)) (.cells (pw 0 0 false).toArray 26))) rfl ?_
  obtain ⟨x_0, e_0, h_0, b_0, s_0⟩ := new_PtAt w x1 y1 false
  obtain ⟨x_1, e_1, h_1, b_1, s_1⟩ := new_PtAt x_0 x2 y2 false
  obtain ⟨x_2, e_2, h_2, b_2, s_2⟩ := new_PtAt x_1 0 0 false
  rw [e_0, e_1, e_2]
  rw [s_0] at h_1 s_1
  rw [s_1] at h_2 s_2
  have HB : Aside0 (Below w.heap.size w x_2) := Aside0.mk (bl_both (bl_both b_0 b_1) b_2)
  have HA : Aside0 (PtAt x_2 (w.heap.size) x1 y1 false) := Aside0.mk ((h_0.on b_1).on b_2)
  have HC : Aside0 (PtAt x_2 (w.heap.size + 1) x2 y2 false) := Aside0.mk (h_1.on b_2)
  have HR : Aside0 (PtAt x_2 (w.heap.size + 1 + 1) 0 0 false) := Aside0.mk h_2
  have HS : Aside0 (w.heap.size + 1 + 1 + 1 ≤ x_2.heap.size) := Aside0.mk (Nat.le_of_eq s_2.symm)
  clear e_0 h_0 b_0 s_0 e_1 h_1 b_1 s_1 e_2 h_2 b_2 s_2
  obtain ⟨w1, hw_⟩ : ∃ x, x = x_2 := ⟨_, rfl⟩
  subst hw_
  clear x_0 x_1
  have cq0 := HA.out.far
  go_upto_region 3 with (fail)
  clear cq0
  have cq0 := HC.out.far
  go_upto_region 5 with (fail)
  clear cq0
  refine start_ (n := 4) (S := fun w' => Below w1.heap.size w1 w') (ds := []) #[false, false, false, false] (by kernel_rfl) rfl rfl ((Below.refl _ _).drew) (fun hHeld => ?_)
  refine take_ (i := 0) (N := some 17) (a' := ?_) #[true, false, false, false] rfl rfl (by kernel_rfl) (fun _ _ _ h => h) (yieldsIf_load_mid (by rfl) 26 (.tmp 2) rfl (w.heap.size) 0 rfl ((pw x1 y1 false)) _ (fun w' hS => (HA.out.on hS).range) rfl rfl (rfl)) hHeld ?_ ?_
  rotate_left
  · simp only [aS, i64_w, i32_w]
    rfl
  refine take_ (i := 1) (N := some 18) (a' := ?_) #[true, true, false, false] rfl rfl (by kernel_rfl) (fun _ _ _ h => h) (yieldsIf_load_mid (by rfl) 26 (.tmp 3) rfl (w.heap.size + 1) 0 rfl ((pw x2 y2 false)) _ (fun w' hS => (HC.out.on hS).range) rfl rfl (rfl)) hHeld ?_ ?_
  rotate_left
  · simp only [aS, i64_w, i32_w]
    rfl
  refine on1_ 2 (some 19) #[true, true, true, false] rfl fun K hK => ?_
  refine gs_ Try.func20 #[ptV x2 y2 false] rfl ?_
  with_reducible refine (K1.out _).mono ?_
  rintro e u5 ⟨rfl, hb_u5⟩
  refine ⟨_, rfl, ?_⟩
  have hq_u5 := bl_on hHeld hb_u5 hHeld.size
  refine hK.out _ _ (hq_u5) (fun hHeld => ?_)
  clear hK K
  refine nm_ (some 19) ?_
  refine pu_ 3 20 #[true, true, true, true] ?_ ?_ ?_ ?_ ?_
  rotate_left
  · intro w'
    go_simp
    with_reducible rfl
  rotate_left
  · simp only [aS, i64_w, i32_w]
    rfl
  refine done_ (by kernel_rfl) ?_
  replace HA := Aside0.mk (HA.out.on hHeld)
  replace HC := Aside0.mk (HC.out.on hHeld)
  replace HR := Aside0.mk (HR.out.on hHeld)
  replace HB := Aside0.mk (bl_on HB.out hHeld HB.out.size)
  replace HS := Aside0.mk (Nat.le_trans HS.out hHeld.size)
  clear hb_u5 hHeld
  go_wp2_with (first | ((with_reducible refine gate_st (y := .tmp 21) rfl ?_); (try simp only [aS]); refine st_pt (x := 0) (y := 0) (f := true) HR.out rfl _ _ rfl rfl rfl ?_; intro u6 hn_ hb_; replace HA := Aside0.mk (HA.out.but hb_ (by omega)); replace HC := Aside0.mk (HC.out.but hb_ (by omega)); replace HR := Aside0.mk hn_; replace HB := Aside0.mk (bl_but HB.out hb_ HB.out.size (by omega)); replace HS := Aside0.mk (Nat.le_trans HS.out hb_.size); clear hn_ hb_))
  exact bodyPost_ret (v := ptV 0 0 true) (results_pt rfl rfl HR.out) rfl ⟨rfl, HB.out⟩
/-- the line's third point, turned over: its X and Y -/
def rlX (l x1 x2 : Nat) : Nat := msp (msp (mmp l l) x1) x2
def rlY (l x1 y1 x : Nat) : Nat := msp (mmp l (msp x1 x)) y1
set_option maxRecDepth 100000 in
set_option maxHeartbeats 8000000 in
theorem radd_gen {x1 y1 x2 y2 v : Nat} (b_x1 : x1 < pP) (b_y1 : y1 < pP) (b_x2 : x2 < pP) (b_y2 : y2 < pP) (hopp : ¬(x1 = x2 ∧ y1 = (0 + pP - y2) % pP)) (hne : ¬(x1 = x2 ∧ y1 = y2)) (hinv : invO pP ((x2 + pP - x1) % pP) = some v) (w : World) :
    Calls Try.prog 21 #[ptV x1 y1 false, ptV x2 y2 false] w fun e w' => e = .returned (ptV (rlX (mmp (msp y2 y1) v) x1 x2) (rlY (mmp (msp y2 y1) v) x1 y1 (rlX (mmp (msp y2 y1) v) x1 x2)) false) ∧ Below w.heap.size w w' := by
  have b_v := invO_lt hinv
  obtain ⟨t1, e_t1⟩ : ∃ t, t = (0 + pP - y2) % pP := ⟨_, rfl⟩
  have b_t1 : t1 < pP := by rw [e_t1]; exact mod_p _
  obtain ⟨t2, e_t2⟩ : ∃ t, t = (y2 + pP - y1) % pP := ⟨_, rfl⟩
  have b_t2 : t2 < pP := by rw [e_t2]; exact mod_p _
  obtain ⟨t3, e_t3⟩ : ∃ t, t = (x2 + pP - x1) % pP := ⟨_, rfl⟩
  have b_t3 : t3 < pP := by rw [e_t3]; exact mod_p _
  obtain ⟨t4, e_t4⟩ : ∃ t, t = t2 * v % pP := ⟨_, rfl⟩
  have b_t4 : t4 < pP := by rw [e_t4]; exact mod_p _
  obtain ⟨t5, e_t5⟩ : ∃ t, t = t4 * t4 % pP := ⟨_, rfl⟩
  have b_t5 : t5 < pP := by rw [e_t5]; exact mod_p _
  obtain ⟨t6, e_t6⟩ : ∃ t, t = (t5 + pP - x1) % pP := ⟨_, rfl⟩
  have b_t6 : t6 < pP := by rw [e_t6]; exact mod_p _
  obtain ⟨t7, e_t7⟩ : ∃ t, t = (t6 + pP - x2) % pP := ⟨_, rfl⟩
  have b_t7 : t7 < pP := by rw [e_t7]; exact mod_p _
  obtain ⟨t8, e_t8⟩ : ∃ t, t = (x1 + pP - t7) % pP := ⟨_, rfl⟩
  have b_t8 : t8 < pP := by rw [e_t8]; exact mod_p _
  obtain ⟨t9, e_t9⟩ : ∃ t, t = t4 * t8 % pP := ⟨_, rfl⟩
  have b_t9 : t9 < pP := by rw [e_t9]; exact mod_p _
  obtain ⟨t10, e_t10⟩ : ∃ t, t = (t9 + pP - y1) % pP := ⟨_, rfl⟩
  have b_t10 : t10 < pP := by rw [e_t10]; exact mod_p _
  have K1 := Aside0.mk (fun (u : World) => rneg_calls x2 b_y2 false  u)
  have K2 := Aside0.mk (fun (u : World) => rps_calls b_y2 b_y1 u)
  have K3 := Aside0.mk (fun (u : World) => rps_calls b_x2 b_x1 u)
  have K4 := Aside0.mk (fun (u : World) => rcp_calls u)
  have K5 := Aside0.mk (fun (u : World) => rinv_some (show invO pP t3 = some v by rw [e_t3]; exact hinv) b_t3 u)
  have K6 := Aside0.mk (fun (u : World) => rpm_calls b_t2 b_v u)
  have K7 := Aside0.mk (fun (u : World) => rpm_calls b_t4 b_t4 u)
  have K8 := Aside0.mk (fun (u : World) => rps_calls b_t5 b_x1 u)
  have K9 := Aside0.mk (fun (u : World) => rps_calls b_t6 b_x2 u)
  have K10 := Aside0.mk (fun (u : World) => rps_calls b_x1 b_t7 u)
  have K11 := Aside0.mk (fun (u : World) => rpm_calls b_t4 b_t8 u)
  have K12 := Aside0.mk (fun (u : World) => rps_calls b_t9 b_y1 u)
  rw [← e_t2] at K2
  rw [← e_t3] at K3
  rw [← e_t4] at K6
  rw [← e_t5] at K7
  rw [← e_t6] at K8
  rw [← e_t7] at K9
  rw [← e_t8] at K10
  rw [← e_t9] at K11
  rw [← e_t10] at K12
  have hres : ptV (rlX (mmp (msp y2 y1) v) x1 x2) (rlY (mmp (msp y2 y1) v) x1 y1 (rlX (mmp (msp y2 y1) v) x1 x2)) false = ptV t7 t10 false := by
    have eX : t7 = rlX (mmp (msp y2 y1) v) x1 x2 := by rw [e_t7, e_t6, e_t5, e_t4, e_t2]; rfl
    have eY : t10 = rlY (mmp (msp y2 y1) v) x1 y1 t7 := by rw [e_t10, e_t9, e_t8, e_t4, e_t2]; rfl
    rw [eY, ← eX]
  rw [hres]
  rw [← e_t1] at hopp
  have hq : ∀ w, (binOp .eql 26 (.agg (pw x1 y1 false).toArray) (ptV x2 t1 false)).run Try.prog w = .ok (.bool false) w := fun w => by
    have h := eql_pt (lt_N b_x1) (lt_N b_y1) (lt_N b_x2) (lt_N b_t1) false false w
    rw [decide_eq_false (fun h => hopp ⟨h.1, h.2.1⟩)] at h
    exact h
  have hg : ∀ w x_ y_, (eqGuard .eql 26 x_ y_ (.agg (pw x1 y1 false).toArray) (ptV x2 t1 false)).run Try.prog w = .ok () w := fun w x_ y_ => eqg_pt .eql x_ y_ x1 y1 x2 t1 false false w
  rw [← e_t1] at K1
  have hs : ∀ w, (binOp .eql 26 (ptV x1 y1 false) (ptV x2 y2 false)).run Try.prog w = .ok (.bool false) w := fun w => by
    have h := eql_pt (lt_N b_x1) (lt_N b_y1) (lt_N b_x2) (lt_N b_y2) false false w
    rw [decide_eq_false (fun h => hne ⟨h.1, h.2.1⟩)] at h
    exact h
  clear e_t1 e_t2 e_t3 e_t4 e_t5 e_t6 e_t7 e_t8 e_t9 e_t10 b_t1 b_t2 b_t3 b_t4 b_t5 b_t6 b_t7 b_t8 b_t9 b_t10 hres hopp hinv b_v b_x1 b_y1 hne b_x2 b_y2
  go_enter Try.func21, Try.ntmps21
  go_upto_region 1 with (fail)
  refine wp_at (w2 := (World.alloc (World.alloc (World.alloc w (.cells (pw x1 y1 false).toArray 26)) (.cells (pw x2 y2 false).toArray 26)) (.cells (pw 0 0 false).toArray 26))) rfl ?_
  obtain ⟨x_0, e_0, h_0, b_0, s_0⟩ := new_PtAt w x1 y1 false
  obtain ⟨x_1, e_1, h_1, b_1, s_1⟩ := new_PtAt x_0 x2 y2 false
  obtain ⟨x_2, e_2, h_2, b_2, s_2⟩ := new_PtAt x_1 0 0 false
  rw [e_0, e_1, e_2]
  rw [s_0] at h_1 s_1
  rw [s_1] at h_2 s_2
  have HB : Aside0 (Below w.heap.size w x_2) := Aside0.mk (bl_both (bl_both b_0 b_1) b_2)
  have HA : Aside0 (PtAt x_2 (w.heap.size) x1 y1 false) := Aside0.mk ((h_0.on b_1).on b_2)
  have HC : Aside0 (PtAt x_2 (w.heap.size + 1) x2 y2 false) := Aside0.mk (h_1.on b_2)
  have HR : Aside0 (PtAt x_2 (w.heap.size + 1 + 1) 0 0 false) := Aside0.mk h_2
  have HS : Aside0 (w.heap.size + 1 + 1 + 1 ≤ x_2.heap.size) := Aside0.mk (Nat.le_of_eq s_2.symm)
  clear e_0 h_0 b_0 s_0 e_1 h_1 b_1 s_1 e_2 h_2 b_2 s_2
  obtain ⟨w1, hw_⟩ : ∃ x, x = x_2 := ⟨_, rfl⟩
  subst hw_
  clear x_0 x_1
  have cq0 := HA.out.far
  go_upto_region 3 with (fail)
  clear cq0
  have cq0 := HC.out.far
  go_upto_region 5 with (fail)
  clear cq0
  refine start_ (n := 4) (S := fun w' => Below w1.heap.size w1 w') (ds := []) #[false, false, false, false] (by kernel_rfl) rfl rfl ((Below.refl _ _).drew) (fun hHeld => ?_)
  refine take_ (i := 0) (N := some 17) (a' := ?_) #[true, false, false, false] rfl rfl (by kernel_rfl) (fun _ _ _ h => h) (yieldsIf_load_mid (by rfl) 26 (.tmp 2) rfl (w.heap.size) 0 rfl ((pw x1 y1 false)) _ (fun w' hS => (HA.out.on hS).range) rfl rfl (rfl)) hHeld ?_ ?_
  rotate_left
  · simp only [aS, i64_w, i32_w]
    rfl
  refine take_ (i := 1) (N := some 18) (a' := ?_) #[true, true, false, false] rfl rfl (by kernel_rfl) (fun _ _ _ h => h) (yieldsIf_load_mid (by rfl) 26 (.tmp 3) rfl (w.heap.size + 1) 0 rfl ((pw x2 y2 false)) _ (fun w' hS => (HC.out.on hS).range) rfl rfl (rfl)) hHeld ?_ ?_
  rotate_left
  · simp only [aS, i64_w, i32_w]
    rfl
  refine on1_ 2 (some 19) #[true, true, true, false] rfl fun K hK => ?_
  refine gs_ Try.func20 #[ptV x2 y2 false] rfl ?_
  with_reducible refine (K1.out _).mono ?_
  rintro e u7 ⟨rfl, hb_u7⟩
  refine ⟨_, rfl, ?_⟩
  have hq_u7 := bl_on hHeld hb_u7 hHeld.size
  refine hK.out _ _ (hq_u7) (fun hHeld => ?_)
  clear hK K
  refine nm_ (some 19) ?_
  refine pu_ 3 20 #[true, true, true, true] ?_ ?_ ?_ ?_ ?_
  rotate_left
  · intro w'
    go_simp
    with_reducible rfl
  rotate_left
  · simp only [aS, i64_w, i32_w]
    rfl
  refine done_ (by kernel_rfl) ?_
  replace HA := Aside0.mk (HA.out.on hHeld)
  replace HC := Aside0.mk (HC.out.on hHeld)
  replace HR := Aside0.mk (HR.out.on hHeld)
  replace HB := Aside0.mk (bl_on HB.out hHeld HB.out.size)
  replace HS := Aside0.mk (Nat.le_trans HS.out hHeld.size)
  clear hb_u7 hHeld
  go_upto_region 8 with (first | ((with_reducible refine gate_dst (N := 23) rfl ?_); refine ld_num (HC.out.ry) rfl _ rfl rfl ?_) | ((with_reducible refine gate_dst (N := 25) rfl ?_); refine ld_num (HA.out.ry) rfl _ rfl rfl ?_) | ((with_reducible refine gate_dst (N := 26) rfl ?_); refine goesL_ (some 26) rfl rfl Try.func37 (by kernel_rfl) rfl #[numV y2, numV y1] rfl (by (try simp only [List.map_toArray, List.map_cons, List.map_nil]); first | done | rfl) ?_; (with_reducible refine (K2.out _).mono ?_); rintro e u8 ⟨rfl, hb_⟩; refine ⟨_, rfl, ?_⟩; replace HA := Aside0.mk (HA.out.on hb_); replace HC := Aside0.mk (HC.out.on hb_); replace HR := Aside0.mk (HR.out.on hb_); replace HB := Aside0.mk (bl_on HB.out hb_ HB.out.size); replace HS := Aside0.mk (Nat.le_trans HS.out hb_.size); clear hb_) | ((with_reducible refine gate_dst (N := 5) rfl ?_); refine al_num rfl _ rfl rfl ?_; intro g5 u9 eg_ hn_ hb_; have HXg5 : Aside0 (w.heap.size + 1 + 1 + 1 ≤ g5) := Aside0.mk (by rw [eg_]; exact HS.out); replace HA := Aside0.mk (HA.out.on hb_); replace HC := Aside0.mk (HC.out.on hb_); replace HR := Aside0.mk (HR.out.on hb_); replace HB := Aside0.mk (bl_on HB.out hb_ HB.out.size); replace HS := Aside0.mk (Nat.le_trans HS.out hb_.size); have Hg5 := Aside0.mk hn_; clear hn_ hb_ eg_) | ((with_reducible refine gate_st (y := .tmp 26) rfl ?_); (try simp only [aS]); refine st_num Hg5.out rfl _ _ rfl rfl rfl ?_; intro u10 hn_ hb_; replace HA := Aside0.mk (HA.out.but hb_ (by have := HXg5.out; omega)); replace HC := Aside0.mk (HC.out.but hb_ (by have := HXg5.out; omega)); replace HR := Aside0.mk (HR.out.but hb_ (by have := HXg5.out; omega)); replace Hg5 := Aside0.mk hn_; replace HB := Aside0.mk (bl_but HB.out hb_ HB.out.size (by have := HXg5.out; omega)); replace HS := Aside0.mk (Nat.le_trans HS.out hb_.size); clear hn_ hb_))
  go_upto_region 9 with (first | ((with_reducible refine gate_dst (N := 28) rfl ?_); refine ld_num (HC.out.rx) rfl _ rfl rfl ?_) | ((with_reducible refine gate_dst (N := 30) rfl ?_); refine ld_num (HA.out.rx) rfl _ rfl rfl ?_) | ((with_reducible refine gate_dst (N := 31) rfl ?_); refine goesL_ (some 31) rfl rfl Try.func37 (by kernel_rfl) rfl #[numV x2, numV x1] rfl (by (try simp only [List.map_toArray, List.map_cons, List.map_nil]); first | done | rfl) ?_; (with_reducible refine (K3.out _).mono ?_); rintro e u11 ⟨rfl, hb_⟩; refine ⟨_, rfl, ?_⟩; replace HA := Aside0.mk (HA.out.on hb_); replace HC := Aside0.mk (HC.out.on hb_); replace HR := Aside0.mk (HR.out.on hb_); replace Hg5 := Aside0.mk (Hg5.out.on hb_); replace HB := Aside0.mk (bl_on HB.out hb_ HB.out.size); replace HS := Aside0.mk (Nat.le_trans HS.out hb_.size); clear hb_) | ((with_reducible refine gate_dst (N := 6) rfl ?_); refine al_num rfl _ rfl rfl ?_; intro g6 u12 eg_ hn_ hb_; have HXg6 : Aside0 (w.heap.size + 1 + 1 + 1 ≤ g6 ∧ g5 < g6) := Aside0.mk (by rw [eg_]; exact ⟨HS.out, Hg5.out.size⟩); replace HA := Aside0.mk (HA.out.on hb_); replace HC := Aside0.mk (HC.out.on hb_); replace HR := Aside0.mk (HR.out.on hb_); replace Hg5 := Aside0.mk (Hg5.out.on hb_); replace HB := Aside0.mk (bl_on HB.out hb_ HB.out.size); replace HS := Aside0.mk (Nat.le_trans HS.out hb_.size); have Hg6 := Aside0.mk hn_; clear hn_ hb_ eg_) | ((with_reducible refine gate_st (y := .tmp 31) rfl ?_); (try simp only [aS]); refine st_num Hg6.out rfl _ _ rfl rfl rfl ?_; intro u13 hn_ hb_; replace HA := Aside0.mk (HA.out.but hb_ (by have := HXg5.out; have := HXg6.out; omega)); replace HC := Aside0.mk (HC.out.but hb_ (by have := HXg5.out; have := HXg6.out; omega)); replace HR := Aside0.mk (HR.out.but hb_ (by have := HXg5.out; have := HXg6.out; omega)); replace Hg5 := Aside0.mk (Hg5.out.but hb_ (by have := HXg5.out; have := HXg6.out; omega)); replace Hg6 := Aside0.mk hn_; replace HB := Aside0.mk (bl_but HB.out hb_ HB.out.size (by have := HXg5.out; have := HXg6.out; omega)); replace HS := Aside0.mk (Nat.le_trans HS.out hb_.size); clear hn_ hb_))
  go_upto_region 12 with (first | ((with_reducible refine gate_dst (N := 32) rfl ?_); refine ld_pt HA.out rfl _ rfl rfl ?_) | ((with_reducible refine gate_dst (N := 33) rfl ?_); refine ld_pt HC.out rfl _ rfl rfl ?_))
  refine start_ (n := 9) (S := fun w' => Below u13.heap.size u13 w') (ds := [7]) (bs 9 0) (by kernel_rfl) rfl rfl ((Below.refl _ _).drew) (fun hHeld => ?_)
  refine take_ (i := 0) (N := some 51) (a' := ?_) (bs 9 1) rfl rfl (by kernel_rfl) (fun _ _ _ h => h) (yields_num (g := g6) (o := 0) (n := t3) (by rfl) (.tmp 6) rfl rfl (fun w' hS => (Hg6.out.on hS).range)) hHeld ?_ ?_
  rotate_left
  · simp only [aS, i64_w, i32_w]
    rfl
  refine join_ (σ := Nat) 2 (bs 9 127) (fun s => [(7, .pointer (some ⟨s, 0, none⟩)), (52, numV pP), (53, .tuple #[numV v, .bool true]), (50, .tuple #[numV v, .bool true]), (54, numV v), (55, .bool true)]) (fun s w' => Below u13.heap.size u13 w' ∧ NAt w' s 0 ∧ u13.heap.size ≤ s) ?_ ?_
  rotate_left
  · intro hCont
    refine tw_ 1 6 (some 52) (some 7) (bs 9 3) (bs 9 65) rfl rfl (fun K hK => ?_) (fun K hK => ?_)
    · skip
      refine goes_ Try.func15 (by kernel_rfl) rfl #[] (by rfl) rfl rfl (by first | rfl | simp only [List.map_toArray, List.map_cons, List.map_nil]) ?_
      with_reducible refine (K4.out _).mono ?_
      rintro e u14 ⟨rfl, hb_u14⟩
      refine ⟨_, rfl, ?_⟩
      have hq_u14 := bl_on hHeld hb_u14 hHeld.size
      refine hK.out _ _ (hq_u14) (fun hHeld => ?_)
      clear hK K
      refine nm_ (some 52) ?_
      refine tw_ 2 6 (some 53) (some 7) (bs 9 7) (bs 9 67) rfl rfl (fun K hK => ?_) (fun K hK => ?_)
      · skip
        refine gs_ Try.func39 #[numV t3, numV pP] rfl ?_
        with_reducible refine (K5.out _).mono ?_
        rintro e u15 ⟨rfl, hb_u15⟩
        refine ⟨_, rfl, ?_⟩
        have hq_u15 := bl_on hHeld hb_u15 hHeld.size
        refine hK.out _ _ (hq_u15) (fun hHeld => ?_)
        clear hK K
        refine nm_ (some 53) ?_
        refine pu_ 3 50 (bs 9 15) ?_ ?_ ?_ ?_ ?_
        rotate_left
        · intro w'
          go_simp
          with_reducible rfl
        rotate_left
        · simp only [aS, i64_w, i32_w]
          rfl
        refine pu_ 4 54 (bs 9 31) ?_ ?_ ?_ ?_ ?_
        rotate_left
        · intro w'
          go_simp
          with_reducible rfl
        rotate_left
        · simp only [aS, i64_w, i32_w]
          rfl
        refine pu_ 5 55 (bs 9 63) ?_ ?_ ?_ ?_ ?_
        rotate_left
        · intro w'
          go_simp
          with_reducible rfl
        rotate_left
        · simp only [aS, i64_w, i32_w]
          rfl
        refine on1_ 6 (some 7) (bs 9 127) rfl fun K hK => ?_
        refine value_ (w1 := ?_) (v := ?_) (by rfl) rfl ?_ ?_
        rotate_left 2
        · go_simp
          constructor
          · rfl
          · rfl
        have hzg7 : NAt (World.alloc u15 (.cells (nw 0).toArray 24)) (u15.heap.size) 0 := by have h_ := Row.new u15 24 (nw 0); first | exact h_ | (simp only [alloc_sz] at h_; exact h_) | omega
        have hsg7 : u13.heap.size ≤ u15.heap.size := by have h_ := hHeld.size; first | exact h_ | (simp only [alloc_sz] at h_; exact h_) | omega
        refine hK.out _ _ (below_alloc hHeld _) (fun hHeld => ?_)
        clear hK K
        refine nm_ (some 7) ?_
        exact norm_ (by simp only [putAll, aS]) (hCont (u15.heap.size) _ ⟨hHeld, hzg7, hsg7⟩)
      · skip
        refine value_ (w1 := ?_) (v := ?_) (by rfl) rfl ?_ ?_
        rotate_left 2
        · go_simp
          constructor
          · rfl
          · rfl
        have hzg7 : NAt (World.alloc u14 (.cells (nw 0).toArray 24)) (u14.heap.size) 0 := by have h_ := Row.new u14 24 (nw 0); first | exact h_ | (simp only [alloc_sz] at h_; exact h_) | omega
        have hsg7 : u13.heap.size ≤ u14.heap.size := by have h_ := hHeld.size; first | exact h_ | (simp only [alloc_sz] at h_; exact h_) | omega
        refine hK.out _ _ (below_alloc hHeld _) (fun hHeld => ?_)
        clear hK K
        refine nm_ (some 7) ?_
        refine on1_ 2 (some 53) (bs 9 71) rfl fun K hK => ?_
        refine gs_ Try.func39 #[numV t3, numV pP] rfl ?_
        with_reducible refine (K5.out _).mono ?_
        rintro e u15 ⟨rfl, hb_u15⟩
        refine ⟨_, rfl, ?_⟩
        have hq_u15 := bl_on hHeld hb_u15 hHeld.size
        replace hzg7 := hzg7.on hb_u15
        refine hK.out _ _ (hq_u15) (fun hHeld => ?_)
        clear hK K
        refine nm_ (some 53) ?_
        refine pu_ 3 50 (bs 9 79) ?_ ?_ ?_ ?_ ?_
        rotate_left
        · intro w'
          go_simp
          with_reducible rfl
        rotate_left
        · simp only [aS, i64_w, i32_w]
          rfl
        refine pu_ 4 54 (bs 9 95) ?_ ?_ ?_ ?_ ?_
        rotate_left
        · intro w'
          go_simp
          with_reducible rfl
        rotate_left
        · simp only [aS, i64_w, i32_w]
          rfl
        refine pu_ 5 55 (bs 9 127) ?_ ?_ ?_ ?_ ?_
        rotate_left
        · intro w'
          go_simp
          with_reducible rfl
        rotate_left
        · simp only [aS, i64_w, i32_w]
          rfl
        exact norm_ (by simp only [putAll, aS]) (hCont (u14.heap.size) _ ⟨hHeld, hzg7, hsg7⟩)
    · skip
      refine value_ (w1 := ?_) (v := ?_) (by rfl) rfl ?_ ?_
      rotate_left 2
      · go_simp
        constructor
        · rfl
        · rfl
      have hzg7 : NAt (World.alloc (World.drew u13) (.cells (nw 0).toArray 24)) (u13.heap.size) 0 := by have h_ := Row.new (World.drew u13) 24 (nw 0); first | exact h_ | (simp only [alloc_sz] at h_; exact h_) | omega
      have hsg7 : u13.heap.size ≤ u13.heap.size := by have h_ := hHeld.size; first | exact h_ | (simp only [alloc_sz] at h_; exact h_) | omega
      refine hK.out _ _ (below_alloc hHeld _) (fun hHeld => ?_)
      clear hK K
      refine nm_ (some 7) ?_
      refine on1_ 1 (some 52) (bs 9 67) rfl fun K hK => ?_
      refine goes_ Try.func15 (by kernel_rfl) rfl #[] (by rfl) rfl rfl (by first | rfl | simp only [List.map_toArray, List.map_cons, List.map_nil]) ?_
      with_reducible refine (K4.out _).mono ?_
      rintro e u14 ⟨rfl, hb_u14⟩
      refine ⟨_, rfl, ?_⟩
      have hq_u14 := bl_on hHeld hb_u14 hHeld.size
      replace hzg7 := hzg7.on hb_u14
      refine hK.out _ _ (hq_u14) (fun hHeld => ?_)
      clear hK K
      refine nm_ (some 52) ?_
      refine on1_ 2 (some 53) (bs 9 71) rfl fun K hK => ?_
      refine gs_ Try.func39 #[numV t3, numV pP] rfl ?_
      with_reducible refine (K5.out _).mono ?_
      rintro e u15 ⟨rfl, hb_u15⟩
      refine ⟨_, rfl, ?_⟩
      have hq_u15 := bl_on hHeld hb_u15 hHeld.size
      replace hzg7 := hzg7.on hb_u15
      refine hK.out _ _ (hq_u15) (fun hHeld => ?_)
      clear hK K
      refine nm_ (some 53) ?_
      refine pu_ 3 50 (bs 9 79) ?_ ?_ ?_ ?_ ?_
      rotate_left
      · intro w'
        go_simp
        with_reducible rfl
      rotate_left
      · simp only [aS, i64_w, i32_w]
        rfl
      refine pu_ 4 54 (bs 9 95) ?_ ?_ ?_ ?_ ?_
      rotate_left
      · intro w'
        go_simp
        with_reducible rfl
      rotate_left
      · simp only [aS, i64_w, i32_w]
        rfl
      refine pu_ 5 55 (bs 9 127) ?_ ?_ ?_ ?_ ?_
      rotate_left
      · intro w'
        go_simp
        with_reducible rfl
      rotate_left
      · simp only [aS, i64_w, i32_w]
        rfl
      exact norm_ (by simp only [putAll, aS]) (hCont (u13.heap.size) _ ⟨hHeld, hzg7, hsg7⟩)
  rintro g7 v16 ⟨hHeld0, hzg7, hsg7⟩
  have hHeld : Below u13.heap.size u13 v16 := hHeld0
  clear hHeld0
  refine norm_ (a' := ?_) ?_ ?_
  rotate_left
  · simp only [putAll, aS]
    rfl
  refine last_ (i := 7) (N := none) (bs 9 255) rfl rfl (by kernel_rfl) (by decide) (fun K hK => ?_)
  refine skip_num (hzg7) (by rfl) rfl (.tmp 7) (.tmp 54) rfl rfl rfl ?_
  intro q17 hA_q17 hT_q17
  refine hK.out _ _ ?_
  clear hK K
  refine pu_ 8 8 (bs 9 511) ?_ ?_ ?_ ?_ ?_
  rotate_left
  · intro w'
    go_simp
    with_reducible rfl
  rotate_left
  · simp only [aS, i64_w, i32_w]
    rfl
  refine done_ (by kernel_rfl) ?_
  have HXg7 : Aside0 (w.heap.size + 1 + 1 + 1 ≤ g7 ∧ g5 < g7 ∧ g6 < g7) := Aside0.mk (⟨Nat.le_trans HS.out hsg7, Nat.lt_of_lt_of_le Hg5.out.size hsg7, Nat.lt_of_lt_of_le Hg6.out.size hsg7⟩)
  replace HA := Aside0.mk (HA.out.on hHeld)
  replace HC := Aside0.mk (HC.out.on hHeld)
  replace HR := Aside0.mk (HR.out.on hHeld)
  replace Hg5 := Aside0.mk (Hg5.out.on hHeld)
  replace Hg6 := Aside0.mk (Hg6.out.on hHeld)
  replace HB := Aside0.mk (bl_on HB.out hHeld HB.out.size)
  replace HS := Aside0.mk (Nat.le_trans HS.out hHeld.size)
  replace HA := Aside0.mk (HA.out.but hT_q17 (by have := HXg5.out; have := HXg6.out; have := HXg7.out; omega))
  replace HC := Aside0.mk (HC.out.but hT_q17 (by have := HXg5.out; have := HXg6.out; have := HXg7.out; omega))
  replace HR := Aside0.mk (HR.out.but hT_q17 (by have := HXg5.out; have := HXg6.out; have := HXg7.out; omega))
  replace Hg5 := Aside0.mk (Hg5.out.but hT_q17 (by have := HXg5.out; have := HXg6.out; have := HXg7.out; omega))
  replace Hg6 := Aside0.mk (Hg6.out.but hT_q17 (by have := HXg5.out; have := HXg6.out; have := HXg7.out; omega))
  have Hg7 := Aside0.mk hA_q17
  replace HB := Aside0.mk (bl_but HB.out hT_q17 HB.out.size (by have := HXg5.out; have := HXg6.out; have := HXg7.out; omega))
  replace HS := Aside0.mk (Nat.le_trans HS.out hT_q17.size)
  clear hA_q17 hT_q17 hzg7 hsg7 hHeld
  go_upto_region 14 with (first | ((with_reducible refine gate_dst (N := 56) rfl ?_); refine ld_num (Hg5.out.range) rfl _ rfl rfl ?_) | ((with_reducible refine gate_dst (N := 57) rfl ?_); refine ld_num (Hg7.out.range) rfl _ rfl rfl ?_) | ((with_reducible refine gate_dst (N := 58) rfl ?_); refine goesL_ (some 58) rfl rfl Try.func35 (by kernel_rfl) rfl #[numV t2, numV v] rfl (by (try simp only [List.map_toArray, List.map_cons, List.map_nil]); first | done | rfl) ?_; (with_reducible refine (K6.out _).mono ?_); rintro e u18 ⟨rfl, hb_⟩; refine ⟨_, rfl, ?_⟩; replace HA := Aside0.mk (HA.out.on hb_); replace HC := Aside0.mk (HC.out.on hb_); replace HR := Aside0.mk (HR.out.on hb_); replace Hg5 := Aside0.mk (Hg5.out.on hb_); replace Hg6 := Aside0.mk (Hg6.out.on hb_); replace Hg7 := Aside0.mk (Hg7.out.on hb_); replace HB := Aside0.mk (bl_on HB.out hb_ HB.out.size); replace HS := Aside0.mk (Nat.le_trans HS.out hb_.size); clear hb_) | ((with_reducible refine gate_dst (N := 9) rfl ?_); refine al_num rfl _ rfl rfl ?_; intro g9 u19 eg_ hn_ hb_; have HXg9 : Aside0 (w.heap.size + 1 + 1 + 1 ≤ g9 ∧ g5 < g9 ∧ g6 < g9 ∧ g7 < g9) := Aside0.mk (by rw [eg_]; exact ⟨HS.out, Hg5.out.size, Hg6.out.size, Hg7.out.size⟩); replace HA := Aside0.mk (HA.out.on hb_); replace HC := Aside0.mk (HC.out.on hb_); replace HR := Aside0.mk (HR.out.on hb_); replace Hg5 := Aside0.mk (Hg5.out.on hb_); replace Hg6 := Aside0.mk (Hg6.out.on hb_); replace Hg7 := Aside0.mk (Hg7.out.on hb_); replace HB := Aside0.mk (bl_on HB.out hb_ HB.out.size); replace HS := Aside0.mk (Nat.le_trans HS.out hb_.size); have Hg9 := Aside0.mk hn_; clear hn_ hb_ eg_) | ((with_reducible refine gate_st (y := .tmp 58) rfl ?_); (try simp only [aS]); refine st_num Hg9.out rfl _ _ rfl rfl rfl ?_; intro u20 hn_ hb_; replace HA := Aside0.mk (HA.out.but hb_ (by have := HXg5.out; have := HXg6.out; have := HXg7.out; have := HXg9.out; omega)); replace HC := Aside0.mk (HC.out.but hb_ (by have := HXg5.out; have := HXg6.out; have := HXg7.out; have := HXg9.out; omega)); replace HR := Aside0.mk (HR.out.but hb_ (by have := HXg5.out; have := HXg6.out; have := HXg7.out; have := HXg9.out; omega)); replace Hg5 := Aside0.mk (Hg5.out.but hb_ (by have := HXg5.out; have := HXg6.out; have := HXg7.out; have := HXg9.out; omega)); replace Hg6 := Aside0.mk (Hg6.out.but hb_ (by have := HXg5.out; have := HXg6.out; have := HXg7.out; have := HXg9.out; omega)); replace Hg7 := Aside0.mk (Hg7.out.but hb_ (by have := HXg5.out; have := HXg6.out; have := HXg7.out; have := HXg9.out; omega)); replace Hg9 := Aside0.mk hn_; replace HB := Aside0.mk (bl_but HB.out hb_ HB.out.size (by have := HXg5.out; have := HXg6.out; have := HXg7.out; have := HXg9.out; omega)); replace HS := Aside0.mk (Nat.le_trans HS.out hb_.size); clear hn_ hb_))
  refine start_ (n := 11) (S := fun w' => Below u20.heap.size u20 w') (ds := [10]) (bs 11 0) (by kernel_rfl) rfl rfl ((Below.refl _ _).drew) (fun hHeld => ?_)
  refine pu_ 3 62 (bs 11 8) ?_ ?_ ?_ ?_ ?_
  rotate_left
  · intro w'
    go_simp
    with_reducible rfl
  rotate_left
  · simp only [aS, i64_w, i32_w]
    rfl
  refine pu_ 6 65 (bs 11 72) ?_ ?_ ?_ ?_ ?_
  rotate_left
  · intro w'
    go_simp
    with_reducible rfl
  rotate_left
  · simp only [aS, i64_w, i32_w]
    rfl
  refine take_ (i := 0) (N := some 59) (a' := ?_) (bs 11 73) rfl rfl (by kernel_rfl) (fun _ _ _ h => h) (yields_num (g := g9) (o := 0) (n := t4) (by rfl) (.tmp 9) rfl rfl (fun w' hS => (Hg9.out.on hS).range)) hHeld ?_ ?_
  rotate_left
  · simp only [aS, i64_w, i32_w]
    rfl
  refine take_ (i := 1) (N := some 60) (a' := ?_) (bs 11 75) rfl rfl (by kernel_rfl) (fun _ _ _ h => h) (yields_num (g := g9) (o := 0) (n := t4) (by rfl) (.tmp 9) rfl rfl (fun w' hS => (Hg9.out.on hS).range)) hHeld ?_ ?_
  rotate_left
  · simp only [aS, i64_w, i32_w]
    rfl
  refine take_ (i := 4) (N := some 63) (a' := ?_) (bs 11 91) rfl rfl (by kernel_rfl) (fun _ _ _ h => h) (yields_num (g := w.heap.size) (o := 0) (n := x1) (by rfl) (.tmp 62) rfl rfl (fun w' hS => (HA.out.on hS).rx)) hHeld ?_ ?_
  rotate_left
  · simp only [aS, i64_w, i32_w]
    rfl
  refine take_ (i := 7) (N := some 66) (a' := ?_) (bs 11 219) rfl rfl (by kernel_rfl) (fun _ _ _ h => h) (yields_num (g := w.heap.size + 1) (o := 0) (n := x2) (by rfl) (.tmp 65) rfl rfl (fun w' hS => (HC.out.on hS).rx)) hHeld ?_ ?_
  rotate_left
  · simp only [aS, i64_w, i32_w]
    rfl
  refine join_ (σ := Nat) 1 (bs 11 1023) (fun s => [(10, .pointer (some ⟨s, 0, none⟩)), (61, numV t5), (64, numV t6), (67, numV t7)]) (fun s w' => Below u20.heap.size u20 w' ∧ NAt w' s 0 ∧ u20.heap.size ≤ s) ?_ ?_
  rotate_left
  · intro hCont
    refine tw_ 2 9 (some 61) (some 10) (bs 11 223) (bs 11 731) rfl rfl (fun K hK => ?_) (fun K hK => ?_)
    · skip
      refine gs_ Try.func35 #[numV t4, numV t4] rfl ?_
      with_reducible refine (K7.out _).mono ?_
      rintro e u21 ⟨rfl, hb_u21⟩
      refine ⟨_, rfl, ?_⟩
      have hq_u21 := bl_on hHeld hb_u21 hHeld.size
      refine hK.out _ _ (hq_u21) (fun hHeld => ?_)
      clear hK K
      refine nm_ (some 61) ?_
      refine tw_ 5 9 (some 64) (some 10) (bs 11 255) (bs 11 735) rfl rfl (fun K hK => ?_) (fun K hK => ?_)
      · skip
        refine gs_ Try.func37 #[numV t5, numV x1] rfl ?_
        with_reducible refine (K8.out _).mono ?_
        rintro e u22 ⟨rfl, hb_u22⟩
        refine ⟨_, rfl, ?_⟩
        have hq_u22 := bl_on hHeld hb_u22 hHeld.size
        refine hK.out _ _ (hq_u22) (fun hHeld => ?_)
        clear hK K
        refine nm_ (some 64) ?_
        refine tw_ 8 9 (some 67) (some 10) (bs 11 511) (bs 11 767) rfl rfl (fun K hK => ?_) (fun K hK => ?_)
        · skip
          refine gs_ Try.func37 #[numV t6, numV x2] rfl ?_
          with_reducible refine (K9.out _).mono ?_
          rintro e u23 ⟨rfl, hb_u23⟩
          refine ⟨_, rfl, ?_⟩
          have hq_u23 := bl_on hHeld hb_u23 hHeld.size
          refine hK.out _ _ (hq_u23) (fun hHeld => ?_)
          clear hK K
          refine nm_ (some 67) ?_
          refine on1_ 9 (some 10) (bs 11 1023) rfl fun K hK => ?_
          refine value_ (w1 := ?_) (v := ?_) (by rfl) rfl ?_ ?_
          rotate_left 2
          · go_simp
            constructor
            · rfl
            · rfl
          have hzg10 : NAt (World.alloc u23 (.cells (nw 0).toArray 24)) (u23.heap.size) 0 := by have h_ := Row.new u23 24 (nw 0); first | exact h_ | (simp only [alloc_sz] at h_; exact h_) | omega
          have hsg10 : u20.heap.size ≤ u23.heap.size := by have h_ := hHeld.size; first | exact h_ | (simp only [alloc_sz] at h_; exact h_) | omega
          refine hK.out _ _ (below_alloc hHeld _) (fun hHeld => ?_)
          clear hK K
          refine nm_ (some 10) ?_
          exact norm_ (by simp only [putAll, aS]) (hCont (u23.heap.size) _ ⟨hHeld, hzg10, hsg10⟩)
        · skip
          refine value_ (w1 := ?_) (v := ?_) (by rfl) rfl ?_ ?_
          rotate_left 2
          · go_simp
            constructor
            · rfl
            · rfl
          have hzg10 : NAt (World.alloc u22 (.cells (nw 0).toArray 24)) (u22.heap.size) 0 := by have h_ := Row.new u22 24 (nw 0); first | exact h_ | (simp only [alloc_sz] at h_; exact h_) | omega
          have hsg10 : u20.heap.size ≤ u22.heap.size := by have h_ := hHeld.size; first | exact h_ | (simp only [alloc_sz] at h_; exact h_) | omega
          refine hK.out _ _ (below_alloc hHeld _) (fun hHeld => ?_)
          clear hK K
          refine nm_ (some 10) ?_
          refine on1_ 8 (some 67) (bs 11 1023) rfl fun K hK => ?_
          refine gs_ Try.func37 #[numV t6, numV x2] rfl ?_
          with_reducible refine (K9.out _).mono ?_
          rintro e u23 ⟨rfl, hb_u23⟩
          refine ⟨_, rfl, ?_⟩
          have hq_u23 := bl_on hHeld hb_u23 hHeld.size
          replace hzg10 := hzg10.on hb_u23
          refine hK.out _ _ (hq_u23) (fun hHeld => ?_)
          clear hK K
          refine nm_ (some 67) ?_
          exact norm_ (by simp only [putAll, aS]) (hCont (u22.heap.size) _ ⟨hHeld, hzg10, hsg10⟩)
      · skip
        refine value_ (w1 := ?_) (v := ?_) (by rfl) rfl ?_ ?_
        rotate_left 2
        · go_simp
          constructor
          · rfl
          · rfl
        have hzg10 : NAt (World.alloc u21 (.cells (nw 0).toArray 24)) (u21.heap.size) 0 := by have h_ := Row.new u21 24 (nw 0); first | exact h_ | (simp only [alloc_sz] at h_; exact h_) | omega
        have hsg10 : u20.heap.size ≤ u21.heap.size := by have h_ := hHeld.size; first | exact h_ | (simp only [alloc_sz] at h_; exact h_) | omega
        refine hK.out _ _ (below_alloc hHeld _) (fun hHeld => ?_)
        clear hK K
        refine nm_ (some 10) ?_
        refine on1_ 5 (some 64) (bs 11 767) rfl fun K hK => ?_
        refine gs_ Try.func37 #[numV t5, numV x1] rfl ?_
        with_reducible refine (K8.out _).mono ?_
        rintro e u22 ⟨rfl, hb_u22⟩
        refine ⟨_, rfl, ?_⟩
        have hq_u22 := bl_on hHeld hb_u22 hHeld.size
        replace hzg10 := hzg10.on hb_u22
        refine hK.out _ _ (hq_u22) (fun hHeld => ?_)
        clear hK K
        refine nm_ (some 64) ?_
        refine on1_ 8 (some 67) (bs 11 1023) rfl fun K hK => ?_
        refine gs_ Try.func37 #[numV t6, numV x2] rfl ?_
        with_reducible refine (K9.out _).mono ?_
        rintro e u23 ⟨rfl, hb_u23⟩
        refine ⟨_, rfl, ?_⟩
        have hq_u23 := bl_on hHeld hb_u23 hHeld.size
        replace hzg10 := hzg10.on hb_u23
        refine hK.out _ _ (hq_u23) (fun hHeld => ?_)
        clear hK K
        refine nm_ (some 67) ?_
        exact norm_ (by simp only [putAll, aS]) (hCont (u21.heap.size) _ ⟨hHeld, hzg10, hsg10⟩)
    · skip
      refine value_ (w1 := ?_) (v := ?_) (by rfl) rfl ?_ ?_
      rotate_left 2
      · go_simp
        constructor
        · rfl
        · rfl
      have hzg10 : NAt (World.alloc (World.drew u20) (.cells (nw 0).toArray 24)) (u20.heap.size) 0 := by have h_ := Row.new (World.drew u20) 24 (nw 0); first | exact h_ | (simp only [alloc_sz] at h_; exact h_) | omega
      have hsg10 : u20.heap.size ≤ u20.heap.size := by have h_ := hHeld.size; first | exact h_ | (simp only [alloc_sz] at h_; exact h_) | omega
      refine hK.out _ _ (below_alloc hHeld _) (fun hHeld => ?_)
      clear hK K
      refine nm_ (some 10) ?_
      refine on1_ 2 (some 61) (bs 11 735) rfl fun K hK => ?_
      refine gs_ Try.func35 #[numV t4, numV t4] rfl ?_
      with_reducible refine (K7.out _).mono ?_
      rintro e u21 ⟨rfl, hb_u21⟩
      refine ⟨_, rfl, ?_⟩
      have hq_u21 := bl_on hHeld hb_u21 hHeld.size
      replace hzg10 := hzg10.on hb_u21
      refine hK.out _ _ (hq_u21) (fun hHeld => ?_)
      clear hK K
      refine nm_ (some 61) ?_
      refine on1_ 5 (some 64) (bs 11 767) rfl fun K hK => ?_
      refine gs_ Try.func37 #[numV t5, numV x1] rfl ?_
      with_reducible refine (K8.out _).mono ?_
      rintro e u22 ⟨rfl, hb_u22⟩
      refine ⟨_, rfl, ?_⟩
      have hq_u22 := bl_on hHeld hb_u22 hHeld.size
      replace hzg10 := hzg10.on hb_u22
      refine hK.out _ _ (hq_u22) (fun hHeld => ?_)
      clear hK K
      refine nm_ (some 64) ?_
      refine on1_ 8 (some 67) (bs 11 1023) rfl fun K hK => ?_
      refine gs_ Try.func37 #[numV t6, numV x2] rfl ?_
      with_reducible refine (K9.out _).mono ?_
      rintro e u23 ⟨rfl, hb_u23⟩
      refine ⟨_, rfl, ?_⟩
      have hq_u23 := bl_on hHeld hb_u23 hHeld.size
      replace hzg10 := hzg10.on hb_u23
      refine hK.out _ _ (hq_u23) (fun hHeld => ?_)
      clear hK K
      refine nm_ (some 67) ?_
      exact norm_ (by simp only [putAll, aS]) (hCont (u20.heap.size) _ ⟨hHeld, hzg10, hsg10⟩)
  rintro g10 v24 ⟨hHeld0, hzg10, hsg10⟩
  have hHeld : Below u20.heap.size u20 v24 := hHeld0
  clear hHeld0
  refine norm_ (a' := ?_) ?_ ?_
  rotate_left
  · simp only [putAll, aS]
    rfl
  refine last_ (i := 10) (N := none) (bs 11 2047) rfl rfl (by kernel_rfl) (by decide) (fun K hK => ?_)
  refine skip_num (hzg10) (by rfl) rfl (.tmp 10) (.tmp 67) rfl rfl rfl ?_
  intro q25 hA_q25 hT_q25
  refine hK.out _ _ ?_
  clear hK K
  refine done_ (by kernel_rfl) ?_
  have HXg10 : Aside0 (w.heap.size + 1 + 1 + 1 ≤ g10 ∧ g5 < g10 ∧ g6 < g10 ∧ g7 < g10 ∧ g9 < g10) := Aside0.mk (⟨Nat.le_trans HS.out hsg10, Nat.lt_of_lt_of_le Hg5.out.size hsg10, Nat.lt_of_lt_of_le Hg6.out.size hsg10, Nat.lt_of_lt_of_le Hg7.out.size hsg10, Nat.lt_of_lt_of_le Hg9.out.size hsg10⟩)
  replace HA := Aside0.mk (HA.out.on hHeld)
  replace HC := Aside0.mk (HC.out.on hHeld)
  replace HR := Aside0.mk (HR.out.on hHeld)
  replace Hg5 := Aside0.mk (Hg5.out.on hHeld)
  replace Hg6 := Aside0.mk (Hg6.out.on hHeld)
  replace Hg7 := Aside0.mk (Hg7.out.on hHeld)
  replace Hg9 := Aside0.mk (Hg9.out.on hHeld)
  replace HB := Aside0.mk (bl_on HB.out hHeld HB.out.size)
  replace HS := Aside0.mk (Nat.le_trans HS.out hHeld.size)
  replace HA := Aside0.mk (HA.out.but hT_q25 (by have := HXg5.out; have := HXg6.out; have := HXg7.out; have := HXg9.out; have := HXg10.out; omega))
  replace HC := Aside0.mk (HC.out.but hT_q25 (by have := HXg5.out; have := HXg6.out; have := HXg7.out; have := HXg9.out; have := HXg10.out; omega))
  replace HR := Aside0.mk (HR.out.but hT_q25 (by have := HXg5.out; have := HXg6.out; have := HXg7.out; have := HXg9.out; have := HXg10.out; omega))
  replace Hg5 := Aside0.mk (Hg5.out.but hT_q25 (by have := HXg5.out; have := HXg6.out; have := HXg7.out; have := HXg9.out; have := HXg10.out; omega))
  replace Hg6 := Aside0.mk (Hg6.out.but hT_q25 (by have := HXg5.out; have := HXg6.out; have := HXg7.out; have := HXg9.out; have := HXg10.out; omega))
  replace Hg7 := Aside0.mk (Hg7.out.but hT_q25 (by have := HXg5.out; have := HXg6.out; have := HXg7.out; have := HXg9.out; have := HXg10.out; omega))
  replace Hg9 := Aside0.mk (Hg9.out.but hT_q25 (by have := HXg5.out; have := HXg6.out; have := HXg7.out; have := HXg9.out; have := HXg10.out; omega))
  have Hg10 := Aside0.mk hA_q25
  replace HB := Aside0.mk (bl_but HB.out hT_q25 HB.out.size (by have := HXg5.out; have := HXg6.out; have := HXg7.out; have := HXg9.out; have := HXg10.out; omega))
  replace HS := Aside0.mk (Nat.le_trans HS.out hT_q25.size)
  clear hA_q25 hT_q25 hzg10 hsg10 hHeld
  go_wp2
  refine start_ (n := 12) (S := fun w' => Below q25.heap.size q25 w') (ds := [11]) (bs 12 0) (by kernel_rfl) rfl rfl ((Below.refl _ _).drew) (fun hHeld => ?_)
  refine pu_ 2 70 (bs 12 4) ?_ ?_ ?_ ?_ ?_
  rotate_left
  · intro w'
    go_simp
    with_reducible rfl
  rotate_left
  · simp only [aS, i64_w, i32_w]
    rfl
  refine pu_ 7 75 (bs 12 132) ?_ ?_ ?_ ?_ ?_
  rotate_left
  · intro w'
    go_simp
    with_reducible rfl
  rotate_left
  · simp only [aS, i64_w, i32_w]
    rfl
  refine take_ (i := 0) (N := some 68) (a' := ?_) (bs 12 133) rfl rfl (by kernel_rfl) (fun _ _ _ h => h) (yields_num (g := g10) (o := 0) (n := t7) (by rfl) (.tmp 10) rfl rfl (fun w' hS => (Hg10.out.on hS).range)) hHeld ?_ ?_
  rotate_left
  · simp only [aS, i64_w, i32_w]
    rfl
  refine take_ (i := 1) (N := some 69) (a' := ?_) (bs 12 135) rfl rfl (by kernel_rfl) (fun _ _ _ h => h) (yields_num (g := g9) (o := 0) (n := t4) (by rfl) (.tmp 9) rfl rfl (fun w' hS => (Hg9.out.on hS).range)) hHeld ?_ ?_
  rotate_left
  · simp only [aS, i64_w, i32_w]
    rfl
  refine take_ (i := 3) (N := some 71) (a' := ?_) (bs 12 143) rfl rfl (by kernel_rfl) (fun _ _ _ h => h) (yields_num (g := w.heap.size) (o := 0) (n := x1) (by rfl) (.tmp 70) rfl rfl (fun w' hS => (HA.out.on hS).rx)) hHeld ?_ ?_
  rotate_left
  · simp only [aS, i64_w, i32_w]
    rfl
  refine take_ (i := 4) (N := some 72) (a' := ?_) (bs 12 159) rfl rfl (by kernel_rfl) (fun _ _ _ h => h) (yields_num (g := g10) (o := 0) (n := t7) (by rfl) (.tmp 10) rfl rfl (fun w' hS => (Hg10.out.on hS).range)) hHeld ?_ ?_
  rotate_left
  · simp only [aS, i64_w, i32_w]
    rfl
  refine take_ (i := 8) (N := some 76) (a' := ?_) (bs 12 415) rfl rfl (by kernel_rfl) (fun _ _ _ h => h) (yields_num (g := w.heap.size) (o := 4) (n := y1) (by rfl) (.tmp 75) rfl rfl (fun w' hS => (HA.out.on hS).ry)) hHeld ?_ ?_
  rotate_left
  · simp only [aS, i64_w, i32_w]
    rfl
  refine on1_ 5 (some 73) (bs 12 447) rfl fun K hK => ?_
  refine gs_ Try.func37 #[numV x1, numV t7] rfl ?_
  with_reducible refine (K10.out _).mono ?_
  rintro e u26 ⟨rfl, hb_u26⟩
  refine ⟨_, rfl, ?_⟩
  have hq_u26 := bl_on hHeld hb_u26 hHeld.size
  refine hK.out _ _ (hq_u26) (fun hHeld => ?_)
  clear hK K
  refine nm_ (some 73) ?_
  refine on1_ 6 (some 74) (bs 12 511) rfl fun K hK => ?_
  refine gs_ Try.func35 #[numV t4, numV t8] rfl ?_
  with_reducible refine (K11.out _).mono ?_
  rintro e u27 ⟨rfl, hb_u27⟩
  refine ⟨_, rfl, ?_⟩
  have hq_u27 := bl_on hHeld hb_u27 hHeld.size
  refine hK.out _ _ (hq_u27) (fun hHeld => ?_)
  clear hK K
  refine nm_ (some 74) ?_
  refine on1_ 9 (some 77) (bs 12 1023) rfl fun K hK => ?_
  refine gs_ Try.func37 #[numV t9, numV y1] rfl ?_
  with_reducible refine (K12.out _).mono ?_
  rintro e u28 ⟨rfl, hb_u28⟩
  refine ⟨_, rfl, ?_⟩
  have hq_u28 := bl_on hHeld hb_u28 hHeld.size
  refine hK.out _ _ (hq_u28) (fun hHeld => ?_)
  clear hK K
  refine nm_ (some 77) ?_
  refine on1_ 10 (some 78) (bs 12 2047) rfl fun K hK => ?_
  refine value_ (w1 := _) (v := ptV t7 t10 false) (by rfl) rfl (rb_pt _ (.tmp 68) (.tmp 77) rfl rfl rfl) ?_
  refine hK.out _ _ (hHeld) (fun hHeld => ?_)
  clear hK K
  refine nm_ (some 78) ?_
  refine last_ (i := 11) (N := none) (bs 12 4095) rfl rfl (by kernel_rfl) (by decide) (fun K hK => ?_)
  refine skip_pt (x := t7) (y := t10) (f := false) (HR.out.on hHeld) (by rfl) rfl (.tmp 4) (.tmp 78) rfl rfl rfl ?_
  intro q29 hA_q29 hT_q29
  refine hK.out _ _ ?_
  clear hK K
  refine done_ (by kernel_rfl) ?_
  replace HA := Aside0.mk (HA.out.on hHeld)
  replace HC := Aside0.mk (HC.out.on hHeld)
  replace HR := Aside0.mk (HR.out.on hHeld)
  replace Hg5 := Aside0.mk (Hg5.out.on hHeld)
  replace Hg6 := Aside0.mk (Hg6.out.on hHeld)
  replace Hg7 := Aside0.mk (Hg7.out.on hHeld)
  replace Hg9 := Aside0.mk (Hg9.out.on hHeld)
  replace Hg10 := Aside0.mk (Hg10.out.on hHeld)
  replace HB := Aside0.mk (bl_on HB.out hHeld HB.out.size)
  replace HS := Aside0.mk (Nat.le_trans HS.out hHeld.size)
  replace HA := Aside0.mk (HA.out.but hT_q29 (by have := HXg5.out; have := HXg6.out; have := HXg7.out; have := HXg9.out; have := HXg10.out; omega))
  replace HC := Aside0.mk (HC.out.but hT_q29 (by have := HXg5.out; have := HXg6.out; have := HXg7.out; have := HXg9.out; have := HXg10.out; omega))
  replace Hg5 := Aside0.mk (Hg5.out.but hT_q29 (by have := HXg5.out; have := HXg6.out; have := HXg7.out; have := HXg9.out; have := HXg10.out; omega))
  replace Hg6 := Aside0.mk (Hg6.out.but hT_q29 (by have := HXg5.out; have := HXg6.out; have := HXg7.out; have := HXg9.out; have := HXg10.out; omega))
  replace Hg7 := Aside0.mk (Hg7.out.but hT_q29 (by have := HXg5.out; have := HXg6.out; have := HXg7.out; have := HXg9.out; have := HXg10.out; omega))
  replace Hg9 := Aside0.mk (Hg9.out.but hT_q29 (by have := HXg5.out; have := HXg6.out; have := HXg7.out; have := HXg9.out; have := HXg10.out; omega))
  replace Hg10 := Aside0.mk (Hg10.out.but hT_q29 (by have := HXg5.out; have := HXg6.out; have := HXg7.out; have := HXg9.out; have := HXg10.out; omega))
  replace HR := Aside0.mk hA_q29
  replace HB := Aside0.mk (bl_but HB.out hT_q29 HB.out.size (by have := HXg5.out; have := HXg6.out; have := HXg7.out; have := HXg9.out; have := HXg10.out; omega))
  replace HS := Aside0.mk (Nat.le_trans HS.out hT_q29.size)
  clear hA_q29 hT_q29 hb_u26 hb_u27 hb_u28 hHeld
  go_wp2
  exact bodyPost_ret (v := ptV t7 t10 false) (results_pt rfl rfl HR.out) rfl ⟨rfl, HB.out⟩
set_option maxRecDepth 100000 in
set_option maxHeartbeats 8000000 in
theorem radd_tan {x1 y1 v : Nat} (b_x1 : x1 < pP) (b_y1 : y1 < pP) (hopp : ¬(x1 = x1 ∧ y1 = (0 + pP - y1) % pP)) (hinv : invO pP ((y1 + y1) % pP) = some v) (w : World) :
    Calls Try.prog 21 #[ptV x1 y1 false, ptV x1 y1 false] w fun e w' => e = .returned (ptV (rlX (mmp (mmp 3 (msp (mmp x1 x1) 1)) v) x1 x1) (rlY (mmp (mmp 3 (msp (mmp x1 x1) 1)) v) x1 y1 (rlX (mmp (mmp 3 (msp (mmp x1 x1) 1)) v) x1 x1)) false) ∧ Below w.heap.size w w' := by
  have b_v := invO_lt hinv
  obtain ⟨t1, e_t1⟩ : ∃ t, t = (0 + pP - y1) % pP := ⟨_, rfl⟩
  have b_t1 : t1 < pP := by rw [e_t1]; exact mod_p _
  obtain ⟨t2, e_t2⟩ : ∃ t, t = (y1 + pP - y1) % pP := ⟨_, rfl⟩
  have b_t2 : t2 < pP := by rw [e_t2]; exact mod_p _
  obtain ⟨t3, e_t3⟩ : ∃ t, t = (x1 + pP - x1) % pP := ⟨_, rfl⟩
  have b_t3 : t3 < pP := by rw [e_t3]; exact mod_p _
  obtain ⟨t4, e_t4⟩ : ∃ t, t = x1 * x1 % pP := ⟨_, rfl⟩
  have b_t4 : t4 < pP := by rw [e_t4]; exact mod_p _
  obtain ⟨t5, e_t5⟩ : ∃ t, t = (t4 + pP - 1) % pP := ⟨_, rfl⟩
  have b_t5 : t5 < pP := by rw [e_t5]; exact mod_p _
  obtain ⟨t6, e_t6⟩ : ∃ t, t = 3 * t5 % pP := ⟨_, rfl⟩
  have b_t6 : t6 < pP := by rw [e_t6]; exact mod_p _
  obtain ⟨t7, e_t7⟩ : ∃ t, t = (y1 + y1) % pP := ⟨_, rfl⟩
  have b_t7 : t7 < pP := by rw [e_t7]; exact mod_p _
  obtain ⟨t8, e_t8⟩ : ∃ t, t = t6 * v % pP := ⟨_, rfl⟩
  have b_t8 : t8 < pP := by rw [e_t8]; exact mod_p _
  obtain ⟨t9, e_t9⟩ : ∃ t, t = t8 * t8 % pP := ⟨_, rfl⟩
  have b_t9 : t9 < pP := by rw [e_t9]; exact mod_p _
  obtain ⟨t10, e_t10⟩ : ∃ t, t = (t9 + pP - x1) % pP := ⟨_, rfl⟩
  have b_t10 : t10 < pP := by rw [e_t10]; exact mod_p _
  obtain ⟨t11, e_t11⟩ : ∃ t, t = (t10 + pP - x1) % pP := ⟨_, rfl⟩
  have b_t11 : t11 < pP := by rw [e_t11]; exact mod_p _
  obtain ⟨t12, e_t12⟩ : ∃ t, t = (x1 + pP - t11) % pP := ⟨_, rfl⟩
  have b_t12 : t12 < pP := by rw [e_t12]; exact mod_p _
  obtain ⟨t13, e_t13⟩ : ∃ t, t = t8 * t12 % pP := ⟨_, rfl⟩
  have b_t13 : t13 < pP := by rw [e_t13]; exact mod_p _
  obtain ⟨t14, e_t14⟩ : ∃ t, t = (t13 + pP - y1) % pP := ⟨_, rfl⟩
  have b_t14 : t14 < pP := by rw [e_t14]; exact mod_p _
  have K1 := Aside0.mk (fun (u : World) => rneg_calls x1 b_y1 false  u)
  have K2 := Aside0.mk (fun (u : World) => rps_calls b_y1 b_y1 u)
  have K3 := Aside0.mk (fun (u : World) => rps_calls b_x1 b_x1 u)
  have K4 := Aside0.mk (fun (u : World) => rpm_calls b_x1 b_x1 u)
  have K5 := Aside0.mk (fun (u : World) => rps_calls b_t4 (show 1 < pP by decide +kernel) u)
  have K6 := Aside0.mk (fun (u : World) => rpm_calls (show 3 < pP by decide +kernel) b_t5 u)
  have K7 := Aside0.mk (fun (u : World) => rcp_calls u)
  have K8 := Aside0.mk (fun (u : World) => fadd_calls (IsNum.mk (lt_N b_y1)) (IsNum.mk (lt_N b_y1)) (IsNum.mk pP_lt) b_y1 b_y1 u)
  have K9 := Aside0.mk (fun (u : World) => rinv_some (show invO pP t7 = some v by rw [e_t7]; exact hinv) b_t7 u)
  have K10 := Aside0.mk (fun (u : World) => rpm_calls b_t6 b_v u)
  have K11 := Aside0.mk (fun (u : World) => rpm_calls b_t8 b_t8 u)
  have K12 := Aside0.mk (fun (u : World) => rps_calls b_t9 b_x1 u)
  have K13 := Aside0.mk (fun (u : World) => rps_calls b_t10 b_x1 u)
  have K14 := Aside0.mk (fun (u : World) => rps_calls b_x1 b_t11 u)
  have K15 := Aside0.mk (fun (u : World) => rpm_calls b_t8 b_t12 u)
  have K16 := Aside0.mk (fun (u : World) => rps_calls b_t13 b_y1 u)
  rw [← e_t2] at K2
  rw [← e_t3] at K3
  rw [← e_t4] at K4
  rw [← e_t5] at K5
  rw [← e_t6] at K6
  rw [← e_t7] at K8
  rw [← e_t8] at K10
  rw [← e_t9] at K11
  rw [← e_t10] at K12
  rw [← e_t11] at K13
  rw [← e_t12] at K14
  rw [← e_t13] at K15
  rw [← e_t14] at K16
  have hres : ptV (rlX (mmp (mmp 3 (msp (mmp x1 x1) 1)) v) x1 x1) (rlY (mmp (mmp 3 (msp (mmp x1 x1) 1)) v) x1 y1 (rlX (mmp (mmp 3 (msp (mmp x1 x1) 1)) v) x1 x1)) false = ptV t11 t14 false := by
    have eX : t11 = rlX (mmp (mmp 3 (msp (mmp x1 x1) 1)) v) x1 x1 := by rw [e_t11, e_t10, e_t9, e_t8, e_t6, e_t5, e_t4]; rfl
    have eY : t14 = rlY (mmp (mmp 3 (msp (mmp x1 x1) 1)) v) x1 y1 t11 := by rw [e_t14, e_t13, e_t12, e_t8, e_t6, e_t5, e_t4]; rfl
    rw [eY, ← eX]
  rw [hres]
  rw [← e_t1] at hopp
  have hq : ∀ w, (binOp .eql 26 (.agg (pw x1 y1 false).toArray) (ptV x1 t1 false)).run Try.prog w = .ok (.bool false) w := fun w => by
    have h := eql_pt (lt_N b_x1) (lt_N b_y1) (lt_N b_x1) (lt_N b_t1) false false w
    rw [decide_eq_false (fun h => hopp ⟨h.1, h.2.1⟩)] at h
    exact h
  have hg : ∀ w x_ y_, (eqGuard .eql 26 x_ y_ (.agg (pw x1 y1 false).toArray) (ptV x1 t1 false)).run Try.prog w = .ok () w := fun w x_ y_ => eqg_pt .eql x_ y_ x1 y1 x1 t1 false false w
  rw [← e_t1] at K1
  have hs : ∀ w, (binOp .eql 26 (ptV x1 y1 false) (ptV x1 y1 false)).run Try.prog w = .ok (.bool true) w := fun w => by
    have h := eql_pt (lt_N b_x1) (lt_N b_y1) (lt_N b_x1) (lt_N b_y1) false false w
    rw [decide_eq_true ⟨rfl, rfl, rfl⟩] at h
    exact h
  clear e_t1 e_t2 e_t3 e_t4 e_t5 e_t6 e_t7 e_t8 e_t9 e_t10 e_t11 e_t12 e_t13 e_t14 b_t1 b_t2 b_t3 b_t4 b_t5 b_t6 b_t7 b_t8 b_t9 b_t10 b_t11 b_t12 b_t13 b_t14 hres hopp hinv b_v b_x1 b_y1
  go_enter Try.func21, Try.ntmps21
  go_upto_region 1 with (fail)
  refine wp_at (w2 := (World.alloc (World.alloc (World.alloc w (.cells (pw x1 y1 false).toArray 26)) (.cells (pw x1 y1 false).toArray 26)) (.cells (pw 0 0 false).toArray 26))) rfl ?_
  obtain ⟨x_0, e_0, h_0, b_0, s_0⟩ := new_PtAt w x1 y1 false
  obtain ⟨x_1, e_1, h_1, b_1, s_1⟩ := new_PtAt x_0 x1 y1 false
  obtain ⟨x_2, e_2, h_2, b_2, s_2⟩ := new_PtAt x_1 0 0 false
  rw [e_0, e_1, e_2]
  rw [s_0] at h_1 s_1
  rw [s_1] at h_2 s_2
  have HB : Aside0 (Below w.heap.size w x_2) := Aside0.mk (bl_both (bl_both b_0 b_1) b_2)
  have HA : Aside0 (PtAt x_2 (w.heap.size) x1 y1 false) := Aside0.mk ((h_0.on b_1).on b_2)
  have HC : Aside0 (PtAt x_2 (w.heap.size + 1) x1 y1 false) := Aside0.mk (h_1.on b_2)
  have HR : Aside0 (PtAt x_2 (w.heap.size + 1 + 1) 0 0 false) := Aside0.mk h_2
  have HS : Aside0 (w.heap.size + 1 + 1 + 1 ≤ x_2.heap.size) := Aside0.mk (Nat.le_of_eq s_2.symm)
  clear e_0 h_0 b_0 s_0 e_1 h_1 b_1 s_1 e_2 h_2 b_2 s_2
  obtain ⟨w1, hw_⟩ : ∃ x, x = x_2 := ⟨_, rfl⟩
  subst hw_
  clear x_0 x_1
  have cq0 := HA.out.far
  go_upto_region 3 with (fail)
  clear cq0
  have cq0 := HC.out.far
  go_upto_region 5 with (fail)
  clear cq0
  refine start_ (n := 4) (S := fun w' => Below w1.heap.size w1 w') (ds := []) #[false, false, false, false] (by kernel_rfl) rfl rfl ((Below.refl _ _).drew) (fun hHeld => ?_)
  refine take_ (i := 0) (N := some 17) (a' := ?_) #[true, false, false, false] rfl rfl (by kernel_rfl) (fun _ _ _ h => h) (yieldsIf_load_mid (by rfl) 26 (.tmp 2) rfl (w.heap.size) 0 rfl ((pw x1 y1 false)) _ (fun w' hS => (HA.out.on hS).range) rfl rfl (rfl)) hHeld ?_ ?_
  rotate_left
  · simp only [aS, i64_w, i32_w]
    rfl
  refine take_ (i := 1) (N := some 18) (a' := ?_) #[true, true, false, false] rfl rfl (by kernel_rfl) (fun _ _ _ h => h) (yieldsIf_load_mid (by rfl) 26 (.tmp 3) rfl (w.heap.size + 1) 0 rfl ((pw x1 y1 false)) _ (fun w' hS => (HC.out.on hS).range) rfl rfl (rfl)) hHeld ?_ ?_
  rotate_left
  · simp only [aS, i64_w, i32_w]
    rfl
  refine on1_ 2 (some 19) #[true, true, true, false] rfl fun K hK => ?_
  refine gs_ Try.func20 #[ptV x1 y1 false] rfl ?_
  with_reducible refine (K1.out _).mono ?_
  rintro e u30 ⟨rfl, hb_u30⟩
  refine ⟨_, rfl, ?_⟩
  have hq_u30 := bl_on hHeld hb_u30 hHeld.size
  refine hK.out _ _ (hq_u30) (fun hHeld => ?_)
  clear hK K
  refine nm_ (some 19) ?_
  refine pu_ 3 20 #[true, true, true, true] ?_ ?_ ?_ ?_ ?_
  rotate_left
  · intro w'
    go_simp
    with_reducible rfl
  rotate_left
  · simp only [aS, i64_w, i32_w]
    rfl
  refine done_ (by kernel_rfl) ?_
  replace HA := Aside0.mk (HA.out.on hHeld)
  replace HC := Aside0.mk (HC.out.on hHeld)
  replace HR := Aside0.mk (HR.out.on hHeld)
  replace HB := Aside0.mk (bl_on HB.out hHeld HB.out.size)
  replace HS := Aside0.mk (Nat.le_trans HS.out hHeld.size)
  clear hb_u30 hHeld
  go_upto_region 8 with (first | ((with_reducible refine gate_dst (N := 23) rfl ?_); refine ld_num (HC.out.ry) rfl _ rfl rfl ?_) | ((with_reducible refine gate_dst (N := 25) rfl ?_); refine ld_num (HA.out.ry) rfl _ rfl rfl ?_) | ((with_reducible refine gate_dst (N := 26) rfl ?_); refine goesL_ (some 26) rfl rfl Try.func37 (by kernel_rfl) rfl #[numV y1, numV y1] rfl (by (try simp only [List.map_toArray, List.map_cons, List.map_nil]); first | done | rfl) ?_; (with_reducible refine (K2.out _).mono ?_); rintro e u31 ⟨rfl, hb_⟩; refine ⟨_, rfl, ?_⟩; replace HA := Aside0.mk (HA.out.on hb_); replace HC := Aside0.mk (HC.out.on hb_); replace HR := Aside0.mk (HR.out.on hb_); replace HB := Aside0.mk (bl_on HB.out hb_ HB.out.size); replace HS := Aside0.mk (Nat.le_trans HS.out hb_.size); clear hb_) | ((with_reducible refine gate_dst (N := 5) rfl ?_); refine al_num rfl _ rfl rfl ?_; intro g5 u32 eg_ hn_ hb_; have HXg5 : Aside0 (w.heap.size + 1 + 1 + 1 ≤ g5) := Aside0.mk (by rw [eg_]; exact HS.out); replace HA := Aside0.mk (HA.out.on hb_); replace HC := Aside0.mk (HC.out.on hb_); replace HR := Aside0.mk (HR.out.on hb_); replace HB := Aside0.mk (bl_on HB.out hb_ HB.out.size); replace HS := Aside0.mk (Nat.le_trans HS.out hb_.size); have Hg5 := Aside0.mk hn_; clear hn_ hb_ eg_) | ((with_reducible refine gate_st (y := .tmp 26) rfl ?_); (try simp only [aS]); refine st_num Hg5.out rfl _ _ rfl rfl rfl ?_; intro u33 hn_ hb_; replace HA := Aside0.mk (HA.out.but hb_ (by have := HXg5.out; omega)); replace HC := Aside0.mk (HC.out.but hb_ (by have := HXg5.out; omega)); replace HR := Aside0.mk (HR.out.but hb_ (by have := HXg5.out; omega)); replace Hg5 := Aside0.mk hn_; replace HB := Aside0.mk (bl_but HB.out hb_ HB.out.size (by have := HXg5.out; omega)); replace HS := Aside0.mk (Nat.le_trans HS.out hb_.size); clear hn_ hb_))
  go_upto_region 9 with (first | ((with_reducible refine gate_dst (N := 28) rfl ?_); refine ld_num (HC.out.rx) rfl _ rfl rfl ?_) | ((with_reducible refine gate_dst (N := 30) rfl ?_); refine ld_num (HA.out.rx) rfl _ rfl rfl ?_) | ((with_reducible refine gate_dst (N := 31) rfl ?_); refine goesL_ (some 31) rfl rfl Try.func37 (by kernel_rfl) rfl #[numV x1, numV x1] rfl (by (try simp only [List.map_toArray, List.map_cons, List.map_nil]); first | done | rfl) ?_; (with_reducible refine (K3.out _).mono ?_); rintro e u34 ⟨rfl, hb_⟩; refine ⟨_, rfl, ?_⟩; replace HA := Aside0.mk (HA.out.on hb_); replace HC := Aside0.mk (HC.out.on hb_); replace HR := Aside0.mk (HR.out.on hb_); replace Hg5 := Aside0.mk (Hg5.out.on hb_); replace HB := Aside0.mk (bl_on HB.out hb_ HB.out.size); replace HS := Aside0.mk (Nat.le_trans HS.out hb_.size); clear hb_) | ((with_reducible refine gate_dst (N := 6) rfl ?_); refine al_num rfl _ rfl rfl ?_; intro g6 u35 eg_ hn_ hb_; have HXg6 : Aside0 (w.heap.size + 1 + 1 + 1 ≤ g6 ∧ g5 < g6) := Aside0.mk (by rw [eg_]; exact ⟨HS.out, Hg5.out.size⟩); replace HA := Aside0.mk (HA.out.on hb_); replace HC := Aside0.mk (HC.out.on hb_); replace HR := Aside0.mk (HR.out.on hb_); replace Hg5 := Aside0.mk (Hg5.out.on hb_); replace HB := Aside0.mk (bl_on HB.out hb_ HB.out.size); replace HS := Aside0.mk (Nat.le_trans HS.out hb_.size); have Hg6 := Aside0.mk hn_; clear hn_ hb_ eg_) | ((with_reducible refine gate_st (y := .tmp 31) rfl ?_); (try simp only [aS]); refine st_num Hg6.out rfl _ _ rfl rfl rfl ?_; intro u36 hn_ hb_; replace HA := Aside0.mk (HA.out.but hb_ (by have := HXg5.out; have := HXg6.out; omega)); replace HC := Aside0.mk (HC.out.but hb_ (by have := HXg5.out; have := HXg6.out; omega)); replace HR := Aside0.mk (HR.out.but hb_ (by have := HXg5.out; have := HXg6.out; omega)); replace Hg5 := Aside0.mk (Hg5.out.but hb_ (by have := HXg5.out; have := HXg6.out; omega)); replace Hg6 := Aside0.mk hn_; replace HB := Aside0.mk (bl_but HB.out hb_ HB.out.size (by have := HXg5.out; have := HXg6.out; omega)); replace HS := Aside0.mk (Nat.le_trans HS.out hb_.size); clear hn_ hb_))
  go_upto_region 10 with (first | ((with_reducible refine gate_dst (N := 32) rfl ?_); refine ld_pt HA.out rfl _ rfl rfl ?_) | ((with_reducible refine gate_dst (N := 33) rfl ?_); refine ld_pt HC.out rfl _ rfl rfl ?_))
  go_upto_region 11 with (first | ((with_reducible refine gate_dst (N := 37) rfl ?_); refine ld_num (HA.out.rx) rfl _ rfl rfl ?_) | ((with_reducible refine gate_dst (N := 39) rfl ?_); refine ld_num (HA.out.rx) rfl _ rfl rfl ?_) | ((with_reducible refine gate_dst (N := 40) rfl ?_); refine goesL_ (some 40) rfl rfl Try.func35 (by kernel_rfl) rfl #[numV x1, numV x1] rfl (by (try simp only [List.map_toArray, List.map_cons, List.map_nil]); first | done | rfl) ?_; (with_reducible refine (K4.out _).mono ?_); rintro e u37 ⟨rfl, hb_⟩; refine ⟨_, rfl, ?_⟩; replace HA := Aside0.mk (HA.out.on hb_); replace HC := Aside0.mk (HC.out.on hb_); replace HR := Aside0.mk (HR.out.on hb_); replace Hg5 := Aside0.mk (Hg5.out.on hb_); replace Hg6 := Aside0.mk (Hg6.out.on hb_); replace HB := Aside0.mk (bl_on HB.out hb_ HB.out.size); replace HS := Aside0.mk (Nat.le_trans HS.out hb_.size); clear hb_) | ((with_reducible refine gate_dst (N := 42) rfl ?_); refine goesL_ (some 42) rfl rfl Try.func37 (by kernel_rfl) rfl #[numV t4, numV 1] rfl (by (try simp only [List.map_toArray, List.map_cons, List.map_nil]); first | done | rfl) ?_; (with_reducible refine (K5.out _).mono ?_); rintro e u38 ⟨rfl, hb_⟩; refine ⟨_, rfl, ?_⟩; replace HA := Aside0.mk (HA.out.on hb_); replace HC := Aside0.mk (HC.out.on hb_); replace HR := Aside0.mk (HR.out.on hb_); replace Hg5 := Aside0.mk (Hg5.out.on hb_); replace Hg6 := Aside0.mk (Hg6.out.on hb_); replace HB := Aside0.mk (bl_on HB.out hb_ HB.out.size); replace HS := Aside0.mk (Nat.le_trans HS.out hb_.size); clear hb_) | ((with_reducible refine gate_dst (N := 43) rfl ?_); refine goesL_ (some 43) rfl rfl Try.func35 (by kernel_rfl) rfl #[numV 3, numV t5] rfl (by (try simp only [List.map_toArray, List.map_cons, List.map_nil]); first | done | rfl) ?_; (with_reducible refine (K6.out _).mono ?_); rintro e u39 ⟨rfl, hb_⟩; refine ⟨_, rfl, ?_⟩; replace HA := Aside0.mk (HA.out.on hb_); replace HC := Aside0.mk (HC.out.on hb_); replace HR := Aside0.mk (HR.out.on hb_); replace Hg5 := Aside0.mk (Hg5.out.on hb_); replace Hg6 := Aside0.mk (Hg6.out.on hb_); replace HB := Aside0.mk (bl_on HB.out hb_ HB.out.size); replace HS := Aside0.mk (Nat.le_trans HS.out hb_.size); clear hb_) | ((with_reducible refine gate_st (y := .tmp 43) rfl ?_); (try simp only [aS]); refine st_num Hg5.out rfl _ _ rfl rfl rfl ?_; intro u40 hn_ hb_; replace HA := Aside0.mk (HA.out.but hb_ (by have := HXg5.out; have := HXg6.out; omega)); replace HC := Aside0.mk (HC.out.but hb_ (by have := HXg5.out; have := HXg6.out; omega)); replace HR := Aside0.mk (HR.out.but hb_ (by have := HXg5.out; have := HXg6.out; omega)); replace Hg6 := Aside0.mk (Hg6.out.but hb_ (by have := HXg5.out; have := HXg6.out; omega)); replace Hg5 := Aside0.mk hn_; replace HB := Aside0.mk (bl_but HB.out hb_ HB.out.size (by have := HXg5.out; have := HXg6.out; omega)); replace HS := Aside0.mk (Nat.le_trans HS.out hb_.size); clear hn_ hb_))
  refine start_ (n := 7) (S := fun w' => Below u40.heap.size u40 w') (ds := [6]) (bs 7 0) (by kernel_rfl) rfl rfl ((Below.refl _ _).drew) (fun hHeld => ?_)
  refine pu_ 0 44 (bs 7 1) ?_ ?_ ?_ ?_ ?_
  rotate_left
  · intro w'
    go_simp
    with_reducible rfl
  rotate_left
  · simp only [aS, i64_w, i32_w]
    rfl
  refine pu_ 2 46 (bs 7 5) ?_ ?_ ?_ ?_ ?_
  rotate_left
  · intro w'
    go_simp
    with_reducible rfl
  rotate_left
  · simp only [aS, i64_w, i32_w]
    rfl
  refine take_ (i := 1) (N := some 45) (a' := ?_) (bs 7 7) rfl rfl (by kernel_rfl) (fun _ _ _ h => h) (yields_num (g := w.heap.size) (o := 4) (n := y1) (by rfl) (.tmp 44) rfl rfl (fun w' hS => (HA.out.on hS).ry)) hHeld ?_ ?_
  rotate_left
  · simp only [aS, i64_w, i32_w]
    rfl
  refine take_ (i := 3) (N := some 47) (a' := ?_) (bs 7 15) rfl rfl (by kernel_rfl) (fun _ _ _ h => h) (yields_num (g := w.heap.size) (o := 4) (n := y1) (by rfl) (.tmp 46) rfl rfl (fun w' hS => (HA.out.on hS).ry)) hHeld ?_ ?_
  rotate_left
  · simp only [aS, i64_w, i32_w]
    rfl
  refine on1_ 4 (some 48) (bs 7 31) rfl fun K hK => ?_
  refine goes_ Try.func15 (by kernel_rfl) rfl #[] (by rfl) rfl rfl (by first | rfl | simp only [List.map_toArray, List.map_cons, List.map_nil]) ?_
  with_reducible refine (K7.out _).mono ?_
  rintro e u41 ⟨rfl, hb_u41⟩
  refine ⟨_, rfl, ?_⟩
  have hq_u41 := bl_on hHeld hb_u41 hHeld.size
  refine hK.out _ _ (hq_u41) (fun hHeld => ?_)
  clear hK K
  refine nm_ (some 48) ?_
  refine on1_ 5 (some 49) (bs 7 63) rfl fun K hK => ?_
  refine gs_ Try.func36 #[numV y1, numV y1, numV pP] rfl ?_
  with_reducible refine (K8.out _).mono ?_
  rintro e u42 ⟨rfl, hb_u42⟩
  refine ⟨_, rfl, ?_⟩
  have hq_u42 := bl_on hHeld hb_u42 hHeld.size
  refine hK.out _ _ (hq_u42) (fun hHeld => ?_)
  clear hK K
  refine nm_ (some 49) ?_
  refine last_ (i := 6) (N := none) (bs 7 127) rfl rfl (by kernel_rfl) (by decide) (fun K hK => ?_)
  refine skip_num (Hg6.out.on hHeld) (by rfl) rfl (.tmp 6) (.tmp 49) rfl rfl rfl ?_
  intro q43 hA_q43 hT_q43
  refine hK.out _ _ ?_
  clear hK K
  refine done_ (by kernel_rfl) ?_
  replace HA := Aside0.mk (HA.out.on hHeld)
  replace HC := Aside0.mk (HC.out.on hHeld)
  replace HR := Aside0.mk (HR.out.on hHeld)
  replace Hg5 := Aside0.mk (Hg5.out.on hHeld)
  replace Hg6 := Aside0.mk (Hg6.out.on hHeld)
  replace HB := Aside0.mk (bl_on HB.out hHeld HB.out.size)
  replace HS := Aside0.mk (Nat.le_trans HS.out hHeld.size)
  replace HA := Aside0.mk (HA.out.but hT_q43 (by have := HXg5.out; have := HXg6.out; omega))
  replace HC := Aside0.mk (HC.out.but hT_q43 (by have := HXg5.out; have := HXg6.out; omega))
  replace HR := Aside0.mk (HR.out.but hT_q43 (by have := HXg5.out; have := HXg6.out; omega))
  replace Hg5 := Aside0.mk (Hg5.out.but hT_q43 (by have := HXg5.out; have := HXg6.out; omega))
  replace Hg6 := Aside0.mk hA_q43
  replace HB := Aside0.mk (bl_but HB.out hT_q43 HB.out.size (by have := HXg5.out; have := HXg6.out; omega))
  replace HS := Aside0.mk (Nat.le_trans HS.out hT_q43.size)
  clear hA_q43 hT_q43 hb_u41 hb_u42 hHeld
  go_wp2
  refine start_ (n := 9) (S := fun w' => Below q43.heap.size q43 w') (ds := [7]) (bs 9 0) (by kernel_rfl) rfl rfl ((Below.refl _ _).drew) (fun hHeld => ?_)
  refine take_ (i := 0) (N := some 51) (a' := ?_) (bs 9 1) rfl rfl (by kernel_rfl) (fun _ _ _ h => h) (yields_num (g := g6) (o := 0) (n := t7) (by rfl) (.tmp 6) rfl rfl (fun w' hS => (Hg6.out.on hS).range)) hHeld ?_ ?_
  rotate_left
  · simp only [aS, i64_w, i32_w]
    rfl
  refine join_ (σ := Nat) 2 (bs 9 127) (fun s => [(7, .pointer (some ⟨s, 0, none⟩)), (52, numV pP), (53, .tuple #[numV v, .bool true]), (50, .tuple #[numV v, .bool true]), (54, numV v), (55, .bool true)]) (fun s w' => Below q43.heap.size q43 w' ∧ NAt w' s 0 ∧ q43.heap.size ≤ s) ?_ ?_
  rotate_left
  · intro hCont
    refine tw_ 1 6 (some 52) (some 7) (bs 9 3) (bs 9 65) rfl rfl (fun K hK => ?_) (fun K hK => ?_)
    · skip
      refine goes_ Try.func15 (by kernel_rfl) rfl #[] (by rfl) rfl rfl (by first | rfl | simp only [List.map_toArray, List.map_cons, List.map_nil]) ?_
      with_reducible refine (K7.out _).mono ?_
      rintro e u44 ⟨rfl, hb_u44⟩
      refine ⟨_, rfl, ?_⟩
      have hq_u44 := bl_on hHeld hb_u44 hHeld.size
      refine hK.out _ _ (hq_u44) (fun hHeld => ?_)
      clear hK K
      refine nm_ (some 52) ?_
      refine tw_ 2 6 (some 53) (some 7) (bs 9 7) (bs 9 67) rfl rfl (fun K hK => ?_) (fun K hK => ?_)
      · skip
        refine gs_ Try.func39 #[numV t7, numV pP] rfl ?_
        with_reducible refine (K9.out _).mono ?_
        rintro e u45 ⟨rfl, hb_u45⟩
        refine ⟨_, rfl, ?_⟩
        have hq_u45 := bl_on hHeld hb_u45 hHeld.size
        refine hK.out _ _ (hq_u45) (fun hHeld => ?_)
        clear hK K
        refine nm_ (some 53) ?_
        refine pu_ 3 50 (bs 9 15) ?_ ?_ ?_ ?_ ?_
        rotate_left
        · intro w'
          go_simp
          with_reducible rfl
        rotate_left
        · simp only [aS, i64_w, i32_w]
          rfl
        refine pu_ 4 54 (bs 9 31) ?_ ?_ ?_ ?_ ?_
        rotate_left
        · intro w'
          go_simp
          with_reducible rfl
        rotate_left
        · simp only [aS, i64_w, i32_w]
          rfl
        refine pu_ 5 55 (bs 9 63) ?_ ?_ ?_ ?_ ?_
        rotate_left
        · intro w'
          go_simp
          with_reducible rfl
        rotate_left
        · simp only [aS, i64_w, i32_w]
          rfl
        refine on1_ 6 (some 7) (bs 9 127) rfl fun K hK => ?_
        refine value_ (w1 := ?_) (v := ?_) (by rfl) rfl ?_ ?_
        rotate_left 2
        · go_simp
          constructor
          · rfl
          · rfl
        have hzg7 : NAt (World.alloc u45 (.cells (nw 0).toArray 24)) (u45.heap.size) 0 := by have h_ := Row.new u45 24 (nw 0); first | exact h_ | (simp only [alloc_sz] at h_; exact h_) | omega
        have hsg7 : q43.heap.size ≤ u45.heap.size := by have h_ := hHeld.size; first | exact h_ | (simp only [alloc_sz] at h_; exact h_) | omega
        refine hK.out _ _ (below_alloc hHeld _) (fun hHeld => ?_)
        clear hK K
        refine nm_ (some 7) ?_
        exact norm_ (by simp only [putAll, aS]) (hCont (u45.heap.size) _ ⟨hHeld, hzg7, hsg7⟩)
      · skip
        refine value_ (w1 := ?_) (v := ?_) (by rfl) rfl ?_ ?_
        rotate_left 2
        · go_simp
          constructor
          · rfl
          · rfl
        have hzg7 : NAt (World.alloc u44 (.cells (nw 0).toArray 24)) (u44.heap.size) 0 := by have h_ := Row.new u44 24 (nw 0); first | exact h_ | (simp only [alloc_sz] at h_; exact h_) | omega
        have hsg7 : q43.heap.size ≤ u44.heap.size := by have h_ := hHeld.size; first | exact h_ | (simp only [alloc_sz] at h_; exact h_) | omega
        refine hK.out _ _ (below_alloc hHeld _) (fun hHeld => ?_)
        clear hK K
        refine nm_ (some 7) ?_
        refine on1_ 2 (some 53) (bs 9 71) rfl fun K hK => ?_
        refine gs_ Try.func39 #[numV t7, numV pP] rfl ?_
        with_reducible refine (K9.out _).mono ?_
        rintro e u45 ⟨rfl, hb_u45⟩
        refine ⟨_, rfl, ?_⟩
        have hq_u45 := bl_on hHeld hb_u45 hHeld.size
        replace hzg7 := hzg7.on hb_u45
        refine hK.out _ _ (hq_u45) (fun hHeld => ?_)
        clear hK K
        refine nm_ (some 53) ?_
        refine pu_ 3 50 (bs 9 79) ?_ ?_ ?_ ?_ ?_
        rotate_left
        · intro w'
          go_simp
          with_reducible rfl
        rotate_left
        · simp only [aS, i64_w, i32_w]
          rfl
        refine pu_ 4 54 (bs 9 95) ?_ ?_ ?_ ?_ ?_
        rotate_left
        · intro w'
          go_simp
          with_reducible rfl
        rotate_left
        · simp only [aS, i64_w, i32_w]
          rfl
        refine pu_ 5 55 (bs 9 127) ?_ ?_ ?_ ?_ ?_
        rotate_left
        · intro w'
          go_simp
          with_reducible rfl
        rotate_left
        · simp only [aS, i64_w, i32_w]
          rfl
        exact norm_ (by simp only [putAll, aS]) (hCont (u44.heap.size) _ ⟨hHeld, hzg7, hsg7⟩)
    · skip
      refine value_ (w1 := ?_) (v := ?_) (by rfl) rfl ?_ ?_
      rotate_left 2
      · go_simp
        constructor
        · rfl
        · rfl
      have hzg7 : NAt (World.alloc (World.drew q43) (.cells (nw 0).toArray 24)) (q43.heap.size) 0 := by have h_ := Row.new (World.drew q43) 24 (nw 0); first | exact h_ | (simp only [alloc_sz] at h_; exact h_) | omega
      have hsg7 : q43.heap.size ≤ q43.heap.size := by have h_ := hHeld.size; first | exact h_ | (simp only [alloc_sz] at h_; exact h_) | omega
      refine hK.out _ _ (below_alloc hHeld _) (fun hHeld => ?_)
      clear hK K
      refine nm_ (some 7) ?_
      refine on1_ 1 (some 52) (bs 9 67) rfl fun K hK => ?_
      refine goes_ Try.func15 (by kernel_rfl) rfl #[] (by rfl) rfl rfl (by first | rfl | simp only [List.map_toArray, List.map_cons, List.map_nil]) ?_
      with_reducible refine (K7.out _).mono ?_
      rintro e u44 ⟨rfl, hb_u44⟩
      refine ⟨_, rfl, ?_⟩
      have hq_u44 := bl_on hHeld hb_u44 hHeld.size
      replace hzg7 := hzg7.on hb_u44
      refine hK.out _ _ (hq_u44) (fun hHeld => ?_)
      clear hK K
      refine nm_ (some 52) ?_
      refine on1_ 2 (some 53) (bs 9 71) rfl fun K hK => ?_
      refine gs_ Try.func39 #[numV t7, numV pP] rfl ?_
      with_reducible refine (K9.out _).mono ?_
      rintro e u45 ⟨rfl, hb_u45⟩
      refine ⟨_, rfl, ?_⟩
      have hq_u45 := bl_on hHeld hb_u45 hHeld.size
      replace hzg7 := hzg7.on hb_u45
      refine hK.out _ _ (hq_u45) (fun hHeld => ?_)
      clear hK K
      refine nm_ (some 53) ?_
      refine pu_ 3 50 (bs 9 79) ?_ ?_ ?_ ?_ ?_
      rotate_left
      · intro w'
        go_simp
        with_reducible rfl
      rotate_left
      · simp only [aS, i64_w, i32_w]
        rfl
      refine pu_ 4 54 (bs 9 95) ?_ ?_ ?_ ?_ ?_
      rotate_left
      · intro w'
        go_simp
        with_reducible rfl
      rotate_left
      · simp only [aS, i64_w, i32_w]
        rfl
      refine pu_ 5 55 (bs 9 127) ?_ ?_ ?_ ?_ ?_
      rotate_left
      · intro w'
        go_simp
        with_reducible rfl
      rotate_left
      · simp only [aS, i64_w, i32_w]
        rfl
      exact norm_ (by simp only [putAll, aS]) (hCont (q43.heap.size) _ ⟨hHeld, hzg7, hsg7⟩)
  rintro g7 v46 ⟨hHeld0, hzg7, hsg7⟩
  have hHeld : Below q43.heap.size q43 v46 := hHeld0
  clear hHeld0
  refine norm_ (a' := ?_) ?_ ?_
  rotate_left
  · simp only [putAll, aS]
    rfl
  refine last_ (i := 7) (N := none) (bs 9 255) rfl rfl (by kernel_rfl) (by decide) (fun K hK => ?_)
  refine skip_num (hzg7) (by rfl) rfl (.tmp 7) (.tmp 54) rfl rfl rfl ?_
  intro q47 hA_q47 hT_q47
  refine hK.out _ _ ?_
  clear hK K
  refine pu_ 8 8 (bs 9 511) ?_ ?_ ?_ ?_ ?_
  rotate_left
  · intro w'
    go_simp
    with_reducible rfl
  rotate_left
  · simp only [aS, i64_w, i32_w]
    rfl
  refine done_ (by kernel_rfl) ?_
  have HXg7 : Aside0 (w.heap.size + 1 + 1 + 1 ≤ g7 ∧ g5 < g7 ∧ g6 < g7) := Aside0.mk (⟨Nat.le_trans HS.out hsg7, Nat.lt_of_lt_of_le Hg5.out.size hsg7, Nat.lt_of_lt_of_le Hg6.out.size hsg7⟩)
  replace HA := Aside0.mk (HA.out.on hHeld)
  replace HC := Aside0.mk (HC.out.on hHeld)
  replace HR := Aside0.mk (HR.out.on hHeld)
  replace Hg5 := Aside0.mk (Hg5.out.on hHeld)
  replace Hg6 := Aside0.mk (Hg6.out.on hHeld)
  replace HB := Aside0.mk (bl_on HB.out hHeld HB.out.size)
  replace HS := Aside0.mk (Nat.le_trans HS.out hHeld.size)
  replace HA := Aside0.mk (HA.out.but hT_q47 (by have := HXg5.out; have := HXg6.out; have := HXg7.out; omega))
  replace HC := Aside0.mk (HC.out.but hT_q47 (by have := HXg5.out; have := HXg6.out; have := HXg7.out; omega))
  replace HR := Aside0.mk (HR.out.but hT_q47 (by have := HXg5.out; have := HXg6.out; have := HXg7.out; omega))
  replace Hg5 := Aside0.mk (Hg5.out.but hT_q47 (by have := HXg5.out; have := HXg6.out; have := HXg7.out; omega))
  replace Hg6 := Aside0.mk (Hg6.out.but hT_q47 (by have := HXg5.out; have := HXg6.out; have := HXg7.out; omega))
  have Hg7 := Aside0.mk hA_q47
  replace HB := Aside0.mk (bl_but HB.out hT_q47 HB.out.size (by have := HXg5.out; have := HXg6.out; have := HXg7.out; omega))
  replace HS := Aside0.mk (Nat.le_trans HS.out hT_q47.size)
  clear hA_q47 hT_q47 hzg7 hsg7 hHeld
  go_upto_region 14 with (first | ((with_reducible refine gate_dst (N := 56) rfl ?_); refine ld_num (Hg5.out.range) rfl _ rfl rfl ?_) | ((with_reducible refine gate_dst (N := 57) rfl ?_); refine ld_num (Hg7.out.range) rfl _ rfl rfl ?_) | ((with_reducible refine gate_dst (N := 58) rfl ?_); refine goesL_ (some 58) rfl rfl Try.func35 (by kernel_rfl) rfl #[numV t6, numV v] rfl (by (try simp only [List.map_toArray, List.map_cons, List.map_nil]); first | done | rfl) ?_; (with_reducible refine (K10.out _).mono ?_); rintro e u48 ⟨rfl, hb_⟩; refine ⟨_, rfl, ?_⟩; replace HA := Aside0.mk (HA.out.on hb_); replace HC := Aside0.mk (HC.out.on hb_); replace HR := Aside0.mk (HR.out.on hb_); replace Hg5 := Aside0.mk (Hg5.out.on hb_); replace Hg6 := Aside0.mk (Hg6.out.on hb_); replace Hg7 := Aside0.mk (Hg7.out.on hb_); replace HB := Aside0.mk (bl_on HB.out hb_ HB.out.size); replace HS := Aside0.mk (Nat.le_trans HS.out hb_.size); clear hb_) | ((with_reducible refine gate_dst (N := 9) rfl ?_); refine al_num rfl _ rfl rfl ?_; intro g9 u49 eg_ hn_ hb_; have HXg9 : Aside0 (w.heap.size + 1 + 1 + 1 ≤ g9 ∧ g5 < g9 ∧ g6 < g9 ∧ g7 < g9) := Aside0.mk (by rw [eg_]; exact ⟨HS.out, Hg5.out.size, Hg6.out.size, Hg7.out.size⟩); replace HA := Aside0.mk (HA.out.on hb_); replace HC := Aside0.mk (HC.out.on hb_); replace HR := Aside0.mk (HR.out.on hb_); replace Hg5 := Aside0.mk (Hg5.out.on hb_); replace Hg6 := Aside0.mk (Hg6.out.on hb_); replace Hg7 := Aside0.mk (Hg7.out.on hb_); replace HB := Aside0.mk (bl_on HB.out hb_ HB.out.size); replace HS := Aside0.mk (Nat.le_trans HS.out hb_.size); have Hg9 := Aside0.mk hn_; clear hn_ hb_ eg_) | ((with_reducible refine gate_st (y := .tmp 58) rfl ?_); (try simp only [aS]); refine st_num Hg9.out rfl _ _ rfl rfl rfl ?_; intro u50 hn_ hb_; replace HA := Aside0.mk (HA.out.but hb_ (by have := HXg5.out; have := HXg6.out; have := HXg7.out; have := HXg9.out; omega)); replace HC := Aside0.mk (HC.out.but hb_ (by have := HXg5.out; have := HXg6.out; have := HXg7.out; have := HXg9.out; omega)); replace HR := Aside0.mk (HR.out.but hb_ (by have := HXg5.out; have := HXg6.out; have := HXg7.out; have := HXg9.out; omega)); replace Hg5 := Aside0.mk (Hg5.out.but hb_ (by have := HXg5.out; have := HXg6.out; have := HXg7.out; have := HXg9.out; omega)); replace Hg6 := Aside0.mk (Hg6.out.but hb_ (by have := HXg5.out; have := HXg6.out; have := HXg7.out; have := HXg9.out; omega)); replace Hg7 := Aside0.mk (Hg7.out.but hb_ (by have := HXg5.out; have := HXg6.out; have := HXg7.out; have := HXg9.out; omega)); replace Hg9 := Aside0.mk hn_; replace HB := Aside0.mk (bl_but HB.out hb_ HB.out.size (by have := HXg5.out; have := HXg6.out; have := HXg7.out; have := HXg9.out; omega)); replace HS := Aside0.mk (Nat.le_trans HS.out hb_.size); clear hn_ hb_))
  refine start_ (n := 11) (S := fun w' => Below u50.heap.size u50 w') (ds := [10]) (bs 11 0) (by kernel_rfl) rfl rfl ((Below.refl _ _).drew) (fun hHeld => ?_)
  refine pu_ 3 62 (bs 11 8) ?_ ?_ ?_ ?_ ?_
  rotate_left
  · intro w'
    go_simp
    with_reducible rfl
  rotate_left
  · simp only [aS, i64_w, i32_w]
    rfl
  refine pu_ 6 65 (bs 11 72) ?_ ?_ ?_ ?_ ?_
  rotate_left
  · intro w'
    go_simp
    with_reducible rfl
  rotate_left
  · simp only [aS, i64_w, i32_w]
    rfl
  refine take_ (i := 0) (N := some 59) (a' := ?_) (bs 11 73) rfl rfl (by kernel_rfl) (fun _ _ _ h => h) (yields_num (g := g9) (o := 0) (n := t8) (by rfl) (.tmp 9) rfl rfl (fun w' hS => (Hg9.out.on hS).range)) hHeld ?_ ?_
  rotate_left
  · simp only [aS, i64_w, i32_w]
    rfl
  refine take_ (i := 1) (N := some 60) (a' := ?_) (bs 11 75) rfl rfl (by kernel_rfl) (fun _ _ _ h => h) (yields_num (g := g9) (o := 0) (n := t8) (by rfl) (.tmp 9) rfl rfl (fun w' hS => (Hg9.out.on hS).range)) hHeld ?_ ?_
  rotate_left
  · simp only [aS, i64_w, i32_w]
    rfl
  refine take_ (i := 4) (N := some 63) (a' := ?_) (bs 11 91) rfl rfl (by kernel_rfl) (fun _ _ _ h => h) (yields_num (g := w.heap.size) (o := 0) (n := x1) (by rfl) (.tmp 62) rfl rfl (fun w' hS => (HA.out.on hS).rx)) hHeld ?_ ?_
  rotate_left
  · simp only [aS, i64_w, i32_w]
    rfl
  refine take_ (i := 7) (N := some 66) (a' := ?_) (bs 11 219) rfl rfl (by kernel_rfl) (fun _ _ _ h => h) (yields_num (g := w.heap.size + 1) (o := 0) (n := x1) (by rfl) (.tmp 65) rfl rfl (fun w' hS => (HC.out.on hS).rx)) hHeld ?_ ?_
  rotate_left
  · simp only [aS, i64_w, i32_w]
    rfl
  refine join_ (σ := Nat) 1 (bs 11 1023) (fun s => [(10, .pointer (some ⟨s, 0, none⟩)), (61, numV t9), (64, numV t10), (67, numV t11)]) (fun s w' => Below u50.heap.size u50 w' ∧ NAt w' s 0 ∧ u50.heap.size ≤ s) ?_ ?_
  rotate_left
  · intro hCont
    refine tw_ 2 9 (some 61) (some 10) (bs 11 223) (bs 11 731) rfl rfl (fun K hK => ?_) (fun K hK => ?_)
    · skip
      refine gs_ Try.func35 #[numV t8, numV t8] rfl ?_
      with_reducible refine (K11.out _).mono ?_
      rintro e u51 ⟨rfl, hb_u51⟩
      refine ⟨_, rfl, ?_⟩
      have hq_u51 := bl_on hHeld hb_u51 hHeld.size
      refine hK.out _ _ (hq_u51) (fun hHeld => ?_)
      clear hK K
      refine nm_ (some 61) ?_
      refine tw_ 5 9 (some 64) (some 10) (bs 11 255) (bs 11 735) rfl rfl (fun K hK => ?_) (fun K hK => ?_)
      · skip
        refine gs_ Try.func37 #[numV t9, numV x1] rfl ?_
        with_reducible refine (K12.out _).mono ?_
        rintro e u52 ⟨rfl, hb_u52⟩
        refine ⟨_, rfl, ?_⟩
        have hq_u52 := bl_on hHeld hb_u52 hHeld.size
        refine hK.out _ _ (hq_u52) (fun hHeld => ?_)
        clear hK K
        refine nm_ (some 64) ?_
        refine tw_ 8 9 (some 67) (some 10) (bs 11 511) (bs 11 767) rfl rfl (fun K hK => ?_) (fun K hK => ?_)
        · skip
          refine gs_ Try.func37 #[numV t10, numV x1] rfl ?_
          with_reducible refine (K13.out _).mono ?_
          rintro e u53 ⟨rfl, hb_u53⟩
          refine ⟨_, rfl, ?_⟩
          have hq_u53 := bl_on hHeld hb_u53 hHeld.size
          refine hK.out _ _ (hq_u53) (fun hHeld => ?_)
          clear hK K
          refine nm_ (some 67) ?_
          refine on1_ 9 (some 10) (bs 11 1023) rfl fun K hK => ?_
          refine value_ (w1 := ?_) (v := ?_) (by rfl) rfl ?_ ?_
          rotate_left 2
          · go_simp
            constructor
            · rfl
            · rfl
          have hzg10 : NAt (World.alloc u53 (.cells (nw 0).toArray 24)) (u53.heap.size) 0 := by have h_ := Row.new u53 24 (nw 0); first | exact h_ | (simp only [alloc_sz] at h_; exact h_) | omega
          have hsg10 : u50.heap.size ≤ u53.heap.size := by have h_ := hHeld.size; first | exact h_ | (simp only [alloc_sz] at h_; exact h_) | omega
          refine hK.out _ _ (below_alloc hHeld _) (fun hHeld => ?_)
          clear hK K
          refine nm_ (some 10) ?_
          exact norm_ (by simp only [putAll, aS]) (hCont (u53.heap.size) _ ⟨hHeld, hzg10, hsg10⟩)
        · skip
          refine value_ (w1 := ?_) (v := ?_) (by rfl) rfl ?_ ?_
          rotate_left 2
          · go_simp
            constructor
            · rfl
            · rfl
          have hzg10 : NAt (World.alloc u52 (.cells (nw 0).toArray 24)) (u52.heap.size) 0 := by have h_ := Row.new u52 24 (nw 0); first | exact h_ | (simp only [alloc_sz] at h_; exact h_) | omega
          have hsg10 : u50.heap.size ≤ u52.heap.size := by have h_ := hHeld.size; first | exact h_ | (simp only [alloc_sz] at h_; exact h_) | omega
          refine hK.out _ _ (below_alloc hHeld _) (fun hHeld => ?_)
          clear hK K
          refine nm_ (some 10) ?_
          refine on1_ 8 (some 67) (bs 11 1023) rfl fun K hK => ?_
          refine gs_ Try.func37 #[numV t10, numV x1] rfl ?_
          with_reducible refine (K13.out _).mono ?_
          rintro e u53 ⟨rfl, hb_u53⟩
          refine ⟨_, rfl, ?_⟩
          have hq_u53 := bl_on hHeld hb_u53 hHeld.size
          replace hzg10 := hzg10.on hb_u53
          refine hK.out _ _ (hq_u53) (fun hHeld => ?_)
          clear hK K
          refine nm_ (some 67) ?_
          exact norm_ (by simp only [putAll, aS]) (hCont (u52.heap.size) _ ⟨hHeld, hzg10, hsg10⟩)
      · skip
        refine value_ (w1 := ?_) (v := ?_) (by rfl) rfl ?_ ?_
        rotate_left 2
        · go_simp
          constructor
          · rfl
          · rfl
        have hzg10 : NAt (World.alloc u51 (.cells (nw 0).toArray 24)) (u51.heap.size) 0 := by have h_ := Row.new u51 24 (nw 0); first | exact h_ | (simp only [alloc_sz] at h_; exact h_) | omega
        have hsg10 : u50.heap.size ≤ u51.heap.size := by have h_ := hHeld.size; first | exact h_ | (simp only [alloc_sz] at h_; exact h_) | omega
        refine hK.out _ _ (below_alloc hHeld _) (fun hHeld => ?_)
        clear hK K
        refine nm_ (some 10) ?_
        refine on1_ 5 (some 64) (bs 11 767) rfl fun K hK => ?_
        refine gs_ Try.func37 #[numV t9, numV x1] rfl ?_
        with_reducible refine (K12.out _).mono ?_
        rintro e u52 ⟨rfl, hb_u52⟩
        refine ⟨_, rfl, ?_⟩
        have hq_u52 := bl_on hHeld hb_u52 hHeld.size
        replace hzg10 := hzg10.on hb_u52
        refine hK.out _ _ (hq_u52) (fun hHeld => ?_)
        clear hK K
        refine nm_ (some 64) ?_
        refine on1_ 8 (some 67) (bs 11 1023) rfl fun K hK => ?_
        refine gs_ Try.func37 #[numV t10, numV x1] rfl ?_
        with_reducible refine (K13.out _).mono ?_
        rintro e u53 ⟨rfl, hb_u53⟩
        refine ⟨_, rfl, ?_⟩
        have hq_u53 := bl_on hHeld hb_u53 hHeld.size
        replace hzg10 := hzg10.on hb_u53
        refine hK.out _ _ (hq_u53) (fun hHeld => ?_)
        clear hK K
        refine nm_ (some 67) ?_
        exact norm_ (by simp only [putAll, aS]) (hCont (u51.heap.size) _ ⟨hHeld, hzg10, hsg10⟩)
    · skip
      refine value_ (w1 := ?_) (v := ?_) (by rfl) rfl ?_ ?_
      rotate_left 2
      · go_simp
        constructor
        · rfl
        · rfl
      have hzg10 : NAt (World.alloc (World.drew u50) (.cells (nw 0).toArray 24)) (u50.heap.size) 0 := by have h_ := Row.new (World.drew u50) 24 (nw 0); first | exact h_ | (simp only [alloc_sz] at h_; exact h_) | omega
      have hsg10 : u50.heap.size ≤ u50.heap.size := by have h_ := hHeld.size; first | exact h_ | (simp only [alloc_sz] at h_; exact h_) | omega
      refine hK.out _ _ (below_alloc hHeld _) (fun hHeld => ?_)
      clear hK K
      refine nm_ (some 10) ?_
      refine on1_ 2 (some 61) (bs 11 735) rfl fun K hK => ?_
      refine gs_ Try.func35 #[numV t8, numV t8] rfl ?_
      with_reducible refine (K11.out _).mono ?_
      rintro e u51 ⟨rfl, hb_u51⟩
      refine ⟨_, rfl, ?_⟩
      have hq_u51 := bl_on hHeld hb_u51 hHeld.size
      replace hzg10 := hzg10.on hb_u51
      refine hK.out _ _ (hq_u51) (fun hHeld => ?_)
      clear hK K
      refine nm_ (some 61) ?_
      refine on1_ 5 (some 64) (bs 11 767) rfl fun K hK => ?_
      refine gs_ Try.func37 #[numV t9, numV x1] rfl ?_
      with_reducible refine (K12.out _).mono ?_
      rintro e u52 ⟨rfl, hb_u52⟩
      refine ⟨_, rfl, ?_⟩
      have hq_u52 := bl_on hHeld hb_u52 hHeld.size
      replace hzg10 := hzg10.on hb_u52
      refine hK.out _ _ (hq_u52) (fun hHeld => ?_)
      clear hK K
      refine nm_ (some 64) ?_
      refine on1_ 8 (some 67) (bs 11 1023) rfl fun K hK => ?_
      refine gs_ Try.func37 #[numV t10, numV x1] rfl ?_
      with_reducible refine (K13.out _).mono ?_
      rintro e u53 ⟨rfl, hb_u53⟩
      refine ⟨_, rfl, ?_⟩
      have hq_u53 := bl_on hHeld hb_u53 hHeld.size
      replace hzg10 := hzg10.on hb_u53
      refine hK.out _ _ (hq_u53) (fun hHeld => ?_)
      clear hK K
      refine nm_ (some 67) ?_
      exact norm_ (by simp only [putAll, aS]) (hCont (u50.heap.size) _ ⟨hHeld, hzg10, hsg10⟩)
  rintro g10 v54 ⟨hHeld0, hzg10, hsg10⟩
  have hHeld : Below u50.heap.size u50 v54 := hHeld0
  clear hHeld0
  refine norm_ (a' := ?_) ?_ ?_
  rotate_left
  · simp only [putAll, aS]
    rfl
  refine last_ (i := 10) (N := none) (bs 11 2047) rfl rfl (by kernel_rfl) (by decide) (fun K hK => ?_)
  refine skip_num (hzg10) (by rfl) rfl (.tmp 10) (.tmp 67) rfl rfl rfl ?_
  intro q55 hA_q55 hT_q55
  refine hK.out _ _ ?_
  clear hK K
  refine done_ (by kernel_rfl) ?_
  have HXg10 : Aside0 (w.heap.size + 1 + 1 + 1 ≤ g10 ∧ g5 < g10 ∧ g6 < g10 ∧ g7 < g10 ∧ g9 < g10) := Aside0.mk (⟨Nat.le_trans HS.out hsg10, Nat.lt_of_lt_of_le Hg5.out.size hsg10, Nat.lt_of_lt_of_le Hg6.out.size hsg10, Nat.lt_of_lt_of_le Hg7.out.size hsg10, Nat.lt_of_lt_of_le Hg9.out.size hsg10⟩)
  replace HA := Aside0.mk (HA.out.on hHeld)
  replace HC := Aside0.mk (HC.out.on hHeld)
  replace HR := Aside0.mk (HR.out.on hHeld)
  replace Hg5 := Aside0.mk (Hg5.out.on hHeld)
  replace Hg6 := Aside0.mk (Hg6.out.on hHeld)
  replace Hg7 := Aside0.mk (Hg7.out.on hHeld)
  replace Hg9 := Aside0.mk (Hg9.out.on hHeld)
  replace HB := Aside0.mk (bl_on HB.out hHeld HB.out.size)
  replace HS := Aside0.mk (Nat.le_trans HS.out hHeld.size)
  replace HA := Aside0.mk (HA.out.but hT_q55 (by have := HXg5.out; have := HXg6.out; have := HXg7.out; have := HXg9.out; have := HXg10.out; omega))
  replace HC := Aside0.mk (HC.out.but hT_q55 (by have := HXg5.out; have := HXg6.out; have := HXg7.out; have := HXg9.out; have := HXg10.out; omega))
  replace HR := Aside0.mk (HR.out.but hT_q55 (by have := HXg5.out; have := HXg6.out; have := HXg7.out; have := HXg9.out; have := HXg10.out; omega))
  replace Hg5 := Aside0.mk (Hg5.out.but hT_q55 (by have := HXg5.out; have := HXg6.out; have := HXg7.out; have := HXg9.out; have := HXg10.out; omega))
  replace Hg6 := Aside0.mk (Hg6.out.but hT_q55 (by have := HXg5.out; have := HXg6.out; have := HXg7.out; have := HXg9.out; have := HXg10.out; omega))
  replace Hg7 := Aside0.mk (Hg7.out.but hT_q55 (by have := HXg5.out; have := HXg6.out; have := HXg7.out; have := HXg9.out; have := HXg10.out; omega))
  replace Hg9 := Aside0.mk (Hg9.out.but hT_q55 (by have := HXg5.out; have := HXg6.out; have := HXg7.out; have := HXg9.out; have := HXg10.out; omega))
  have Hg10 := Aside0.mk hA_q55
  replace HB := Aside0.mk (bl_but HB.out hT_q55 HB.out.size (by have := HXg5.out; have := HXg6.out; have := HXg7.out; have := HXg9.out; have := HXg10.out; omega))
  replace HS := Aside0.mk (Nat.le_trans HS.out hT_q55.size)
  clear hA_q55 hT_q55 hzg10 hsg10 hHeld
  go_wp2
  refine start_ (n := 12) (S := fun w' => Below q55.heap.size q55 w') (ds := [11]) (bs 12 0) (by kernel_rfl) rfl rfl ((Below.refl _ _).drew) (fun hHeld => ?_)
  refine pu_ 2 70 (bs 12 4) ?_ ?_ ?_ ?_ ?_
  rotate_left
  · intro w'
    go_simp
    with_reducible rfl
  rotate_left
  · simp only [aS, i64_w, i32_w]
    rfl
  refine pu_ 7 75 (bs 12 132) ?_ ?_ ?_ ?_ ?_
  rotate_left
  · intro w'
    go_simp
    with_reducible rfl
  rotate_left
  · simp only [aS, i64_w, i32_w]
    rfl
  refine take_ (i := 0) (N := some 68) (a' := ?_) (bs 12 133) rfl rfl (by kernel_rfl) (fun _ _ _ h => h) (yields_num (g := g10) (o := 0) (n := t11) (by rfl) (.tmp 10) rfl rfl (fun w' hS => (Hg10.out.on hS).range)) hHeld ?_ ?_
  rotate_left
  · simp only [aS, i64_w, i32_w]
    rfl
  refine take_ (i := 1) (N := some 69) (a' := ?_) (bs 12 135) rfl rfl (by kernel_rfl) (fun _ _ _ h => h) (yields_num (g := g9) (o := 0) (n := t8) (by rfl) (.tmp 9) rfl rfl (fun w' hS => (Hg9.out.on hS).range)) hHeld ?_ ?_
  rotate_left
  · simp only [aS, i64_w, i32_w]
    rfl
  refine take_ (i := 3) (N := some 71) (a' := ?_) (bs 12 143) rfl rfl (by kernel_rfl) (fun _ _ _ h => h) (yields_num (g := w.heap.size) (o := 0) (n := x1) (by rfl) (.tmp 70) rfl rfl (fun w' hS => (HA.out.on hS).rx)) hHeld ?_ ?_
  rotate_left
  · simp only [aS, i64_w, i32_w]
    rfl
  refine take_ (i := 4) (N := some 72) (a' := ?_) (bs 12 159) rfl rfl (by kernel_rfl) (fun _ _ _ h => h) (yields_num (g := g10) (o := 0) (n := t11) (by rfl) (.tmp 10) rfl rfl (fun w' hS => (Hg10.out.on hS).range)) hHeld ?_ ?_
  rotate_left
  · simp only [aS, i64_w, i32_w]
    rfl
  refine take_ (i := 8) (N := some 76) (a' := ?_) (bs 12 415) rfl rfl (by kernel_rfl) (fun _ _ _ h => h) (yields_num (g := w.heap.size) (o := 4) (n := y1) (by rfl) (.tmp 75) rfl rfl (fun w' hS => (HA.out.on hS).ry)) hHeld ?_ ?_
  rotate_left
  · simp only [aS, i64_w, i32_w]
    rfl
  refine on1_ 5 (some 73) (bs 12 447) rfl fun K hK => ?_
  refine gs_ Try.func37 #[numV x1, numV t11] rfl ?_
  with_reducible refine (K14.out _).mono ?_
  rintro e u56 ⟨rfl, hb_u56⟩
  refine ⟨_, rfl, ?_⟩
  have hq_u56 := bl_on hHeld hb_u56 hHeld.size
  refine hK.out _ _ (hq_u56) (fun hHeld => ?_)
  clear hK K
  refine nm_ (some 73) ?_
  refine on1_ 6 (some 74) (bs 12 511) rfl fun K hK => ?_
  refine gs_ Try.func35 #[numV t8, numV t12] rfl ?_
  with_reducible refine (K15.out _).mono ?_
  rintro e u57 ⟨rfl, hb_u57⟩
  refine ⟨_, rfl, ?_⟩
  have hq_u57 := bl_on hHeld hb_u57 hHeld.size
  refine hK.out _ _ (hq_u57) (fun hHeld => ?_)
  clear hK K
  refine nm_ (some 74) ?_
  refine on1_ 9 (some 77) (bs 12 1023) rfl fun K hK => ?_
  refine gs_ Try.func37 #[numV t13, numV y1] rfl ?_
  with_reducible refine (K16.out _).mono ?_
  rintro e u58 ⟨rfl, hb_u58⟩
  refine ⟨_, rfl, ?_⟩
  have hq_u58 := bl_on hHeld hb_u58 hHeld.size
  refine hK.out _ _ (hq_u58) (fun hHeld => ?_)
  clear hK K
  refine nm_ (some 77) ?_
  refine on1_ 10 (some 78) (bs 12 2047) rfl fun K hK => ?_
  refine value_ (w1 := _) (v := ptV t11 t14 false) (by rfl) rfl (rb_pt _ (.tmp 68) (.tmp 77) rfl rfl rfl) ?_
  refine hK.out _ _ (hHeld) (fun hHeld => ?_)
  clear hK K
  refine nm_ (some 78) ?_
  refine last_ (i := 11) (N := none) (bs 12 4095) rfl rfl (by kernel_rfl) (by decide) (fun K hK => ?_)
  refine skip_pt (x := t11) (y := t14) (f := false) (HR.out.on hHeld) (by rfl) rfl (.tmp 4) (.tmp 78) rfl rfl rfl ?_
  intro q59 hA_q59 hT_q59
  refine hK.out _ _ ?_
  clear hK K
  refine done_ (by kernel_rfl) ?_
  replace HA := Aside0.mk (HA.out.on hHeld)
  replace HC := Aside0.mk (HC.out.on hHeld)
  replace HR := Aside0.mk (HR.out.on hHeld)
  replace Hg5 := Aside0.mk (Hg5.out.on hHeld)
  replace Hg6 := Aside0.mk (Hg6.out.on hHeld)
  replace Hg7 := Aside0.mk (Hg7.out.on hHeld)
  replace Hg9 := Aside0.mk (Hg9.out.on hHeld)
  replace Hg10 := Aside0.mk (Hg10.out.on hHeld)
  replace HB := Aside0.mk (bl_on HB.out hHeld HB.out.size)
  replace HS := Aside0.mk (Nat.le_trans HS.out hHeld.size)
  replace HA := Aside0.mk (HA.out.but hT_q59 (by have := HXg5.out; have := HXg6.out; have := HXg7.out; have := HXg9.out; have := HXg10.out; omega))
  replace HC := Aside0.mk (HC.out.but hT_q59 (by have := HXg5.out; have := HXg6.out; have := HXg7.out; have := HXg9.out; have := HXg10.out; omega))
  replace Hg5 := Aside0.mk (Hg5.out.but hT_q59 (by have := HXg5.out; have := HXg6.out; have := HXg7.out; have := HXg9.out; have := HXg10.out; omega))
  replace Hg6 := Aside0.mk (Hg6.out.but hT_q59 (by have := HXg5.out; have := HXg6.out; have := HXg7.out; have := HXg9.out; have := HXg10.out; omega))
  replace Hg7 := Aside0.mk (Hg7.out.but hT_q59 (by have := HXg5.out; have := HXg6.out; have := HXg7.out; have := HXg9.out; have := HXg10.out; omega))
  replace Hg9 := Aside0.mk (Hg9.out.but hT_q59 (by have := HXg5.out; have := HXg6.out; have := HXg7.out; have := HXg9.out; have := HXg10.out; omega))
  replace Hg10 := Aside0.mk (Hg10.out.but hT_q59 (by have := HXg5.out; have := HXg6.out; have := HXg7.out; have := HXg9.out; have := HXg10.out; omega))
  replace HR := Aside0.mk hA_q59
  replace HB := Aside0.mk (bl_but HB.out hT_q59 HB.out.size (by have := HXg5.out; have := HXg6.out; have := HXg7.out; have := HXg9.out; have := HXg10.out; omega))
  replace HS := Aside0.mk (Nat.le_trans HS.out hT_q59.size)
  clear hA_q59 hT_q59 hb_u56 hb_u57 hb_u58 hHeld
  go_wp2
  exact bodyPost_ret (v := ptV t11 t14 false) (results_pt rfl rfl HR.out) rfl ⟨rfl, HB.out⟩
end Go.Proofs.Ytkfjhndofbmhoaa
