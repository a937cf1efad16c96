/- What the proof of PointMultiples is made of, part 27. -/
import Derived.Test.YtkfjhndofbmhoaaZPointMultiples26
import Derived.Laws.StructEq
import Derived.Test.YtkfjhndofbmhoaaZPointMultiplesh
namespace Go.Proofs.Ytkfjhndofbmhoaa
open Go.RowKit Go.Proofs.Ytkfjhndofbmhoaa.Arr Go.Proofs.YtkfjhndofbmhoaaW.PrintWords Go.Proofs.YtkfjhndofbmhoaaW.PrintLast Go.Proofs.YtkfjhndofbmhoaaW.PrintMore
attribute [local go_sem high] eqg_num eqg_num0
set_option linter.unusedVariables false
set_option linter.unusedSimpArgs false
theorem pt_fields : (Try.prog.fieldsOf 26).toList.map (fun f => (f.name, f.type, f.offset)) = [("X", 24, 0), ("Y", 24, 4), ("Far", 4, 8)] := by kernel_rfl
theorem run_part_num (xs : Array Value) (off : Nat) (w : World) : (part 24 xs off).run Try.prog w = .ok (.agg (xs.extract off (off + 4))) w := by
  have hu : Try.prog.underlying 24 = some (.array 4 22) := by kernel_rfl
  obtain ⟨i, hi, hz, hs4, hby⟩ := info_parts (P := Try.prog) (e := 24) (z := numV 0) (size := 4) (bytes := 32) (by kernel_rfl)
  simp [part, isAgg, run_underlying hu, sizeOf, typeInfo, hi, hs4]
theorem fields_cons {P : Program} {d : Nat} {xs ys : Array Value} {f : Field} {fs : List Field} {a b : Value} {r s : Bool} {w : World} (hn : f.name ≠ "_")
    (ha : (part f.type xs f.offset).run P w = .ok a w) (hb : (part f.type ys f.offset).run P w = .ok b w) (he : (Op.equalIn d f.type a b).run P w = .ok r w) (hr : (Op.eqFields d xs ys fs).run P w = .ok s w) : (Op.eqFields d xs ys (f :: fs)).run P w = .ok (r && s) w := by
  rw [Op.eqFields, if_pos hn]
  simp only [Sem.run_bind, ha, hb, he, Result.andThen_ok]
  cases r
  · simp
  · simpa using hr
theorem eqN (d : Nat) {a b : Nat} (ha : a < N256) (hb : b < N256) (w : World) : (Op.equalIn (d + 2) 24 (numV a) (numV b)).run Try.prog w = .ok (decide (a = b)) w := by
  rw [numV_def, numV_def, eqA_num, words_beq ha hb]
theorem eqA_pt (d : Nat) {x y x' y' : Nat} (hx : x < N256) (hy : y < N256) (hx' : x' < N256) (hy' : y' < N256) (f f' : Bool) (w : World) :
    (Op.equalIn (d + 3) 26 (ptV x y f) (ptV x' y' f')).run Try.prog w = .ok (decide (x = x') && (decide (y = y') && ((f == f') && true))) w := by
  unfold ptV
  rw [run_equalIn_struct w (d + 2) _ _ _ (by kernel_rfl) (by kernel_rfl)]
  have h := pt_fields
  generalize (Try.prog.fieldsOf 26).toList = fs at h ⊢
  obtain ⟨f0, r0, rfl, e0, h⟩ := List.map_eq_cons_iff.1 h
  obtain ⟨f1, r1, rfl, e1, h⟩ := List.map_eq_cons_iff.1 h
  obtain ⟨f2, r2, rfl, e2, h⟩ := List.map_eq_cons_iff.1 h
  rw [List.map_eq_nil_iff] at h
  subst h
  injection e0 with n0 e0
  injection e0 with t0 o0
  injection e1 with n1 e1
  injection e1 with t1 o1
  injection e2 with n2 e2
  injection e2 with t2 o2
  have hb : Try.prog.underlying 4 = some .bool := by kernel_rfl
  have hp : Try.prog.plainKey 4 = true := by kernel_rfl
  refine fields_cons (by rw [n0]; decide) (by rw [t0, o0]; exact run_part_num _ _ w) (by rw [t0, o0]; exact run_part_num _ _ w) (by rw [t0]; exact eqN d hx hx' w)
    (fields_cons (by rw [n1]; decide) (by rw [t1, o1]; exact run_part_num _ _ w) (by rw [t1, o1]; exact run_part_num _ _ w) (by rw [t1]; exact eqN d hy hy' w)
    (fields_cons (a := .bool f) (b := .bool f') (by rw [n2]; decide) (by rw [t2, o2]; exact run_part_plain w hp rfl) (by rw [t2, o2]; exact run_part_plain w hp rfl) (by rw [t2]; exact run_equalIn_bool' w (d + 1) _ f f' hb) rfl))
theorem eql_pt {x y x' y' : Nat} (hx : x < N256) (hy : y < N256) (hx' : x' < N256) (hy' : y' < N256) (f f' : Bool) (w : World) :
    (binOp .eql 26 (ptV x y f) (ptV x' y' f')).run Try.prog w = .ok (.bool (decide (x = x' ∧ y = y' ∧ f = f'))) w := by
  have h := eqA_pt 9997 hx hy hx' hy' f f' w
  unfold ptV at h ⊢
  rw [run_eql_struct, show (10000 : Nat) = 9997 + 3 from rfl, h]
  simp only [Result.andThen_ok, Sem.run_pure]
  congr 2
  rw [Bool.eq_iff_iff]
  simp
theorem eqg_pt (op : BinOp) (x_ y_ : Operand) (x y x' y' : Nat) (f f' : Bool) (w : World) : (eqGuard op 26 x_ y_ (ptV x y f) (ptV x' y' f')).run Try.prog w = .ok () w := by
  unfold ptV
  simp [go_sem]
/-- is a point on the curve? -/
def onB (x y : Nat) (f : Bool) : Bool := if f then decide (x = 0 ∧ y = 0) else decide (x < pP ∧ y < pP ∧ mmp y y = adp (msp (mmp (mmp x x) x) (mmp x 3)) cB)
theorem on_iff {x y : Nat} (hx : x < pP) (hy : y < pP) : onB x y false = decide (mmp y y = adp (msp (mmp (mmp x x) x) (mmp x 3)) cB) := by
  unfold onB
  rw [if_neg (by decide)]
  generalize mmp y y = u
  generalize adp (msp (mmp (mmp x x) x) (mmp x 3)) cB = v
  by_cases h : u = v
  · rw [decide_eq_true h, decide_eq_true ⟨hx, hy, h⟩]
  · rw [decide_eq_false h, decide_eq_false (fun h2 => h h2.2.2)]
theorem cmp_below {a : Nat} (h : a < pP) (w : World) : Calls Try.prog 54 #[numV a, numV pP] w fun e w' => e = .returned (.int .i64 (-1)) ∧ Below w.heap.size w w' := by
  have := cmp_calls (IsNum.mk (lt_N h)) (IsNum.mk pP_lt) w
  unfold cmpI at this
  rw [if_pos h] at this
  exact this
theorem cmp_above {a : Nat} (ha : a < N256) (h : ¬ a < pP) : ∃ c : Int, 0 ≤ c ∧ ∀ w, Calls Try.prog 54 #[numV a, numV pP] w fun e w' => e = .returned (.int .i64 c) ∧ Below w.heap.size w w' := by
  refine ⟨cmpI a pP, ?_, fun w => cmp_calls (IsNum.mk ha) (IsNum.mk pP_lt) w⟩
  unfold cmpI
  rw [if_neg h]
  split <;> decide
set_option maxRecDepth 100000 in
set_option maxHeartbeats 8000000 in
theorem pon_far {gf : Nat} {x y : Nat} (hx : x < N256) (hy : y < N256) (w : World) (hF : CFld w gf) :
    Calls Try.prog 30 #[cvV gf, ptV x y true] w fun e w' => e = .returned (.bool (onB x y true)) ∧ Below w.heap.size w w' := by
  have HG : Aside0 (gf < w.heap.size) := Aside0.mk hF.size
  have hq : ∀ w, (binOp .eql 26 (ptV x y true) (.agg #[.int .u64 0, .int .u64 0, .int .u64 0, .int .u64 0, .int .u64 0, .int .u64 0, .int .u64 0, .int .u64 0, .bool true])).run Try.prog w = .ok (.bool (onB x y true)) w := fun w => by
    have h := eql_pt hx hy (x' := 0) (y' := 0) N256_pos N256_pos true true w
    rw [show decide (x = 0 ∧ y = 0 ∧ true = true) = onB x y true by unfold onB; simp] at h
    exact h
  have hg : ∀ w x_ y_, (eqGuard .eql 26 x_ y_ (ptV x y true) (.agg #[.int .u64 0, .int .u64 0, .int .u64 0, .int .u64 0, .int .u64 0, .int .u64 0, .int .u64 0, .int .u64 0, .bool true])).run Try.prog w = .ok () w := fun w x_ y_ => eqg_pt .eql x_ y_ x y 0 0 true true w
  generalize onB x y true = D at *
  clear hx hy
  go_enter Try.func30, Try.ntmps30
  go_upto_region 1 with (fail)
  refine wp_at (w2 := (World.alloc (World.alloc w (.cells (cvl gf).toArray 58)) (.cells (pw x y true).toArray 26))) rfl ?_
  obtain ⟨x_0, e_0, h_0, b_0, s_0⟩ := new_CvAt w gf
  obtain ⟨x_1, e_1, h_1, b_1, s_1⟩ := new_PtAt x_0 x y true
  rw [e_0, e_1]
  rw [s_0] at h_1 s_1
  have HB : Aside0 (Below w.heap.size w x_1) := Aside0.mk (bl_both b_0 b_1)
  have HC : Aside0 (CvAt x_1 (w.heap.size) gf) := Aside0.mk (h_0.on b_1)
  have HA : Aside0 (PtAt x_1 (w.heap.size + 1) x y true) := Aside0.mk h_1
  have HS : Aside0 (w.heap.size + 1 + 1 ≤ x_1.heap.size) := Aside0.mk (Nat.le_of_eq s_1.symm)
  have HF := Aside0.mk (hF.on HB.out)
  clear e_0 h_0 b_0 s_0 e_1 h_1 b_1 s_1 hF
  obtain ⟨w1, hw_⟩ : ∃ x, x = x_1 := ⟨_, rfl⟩
  subst hw_
  clear x_0
  have cq0 := HA.out.far
  go_upto_region 2 with (fail)
  clear cq0
  go_wp2_with (first | ((with_reducible refine gate_dst (N := 8) rfl ?_); refine ld_pt HA.out rfl _ rfl rfl ?_))
  go_ret
  exact ⟨rfl, HB.out⟩
set_option maxRecDepth 100000 in
set_option maxHeartbeats 8000000 in
theorem pon_x {gf : Nat} {x y : Nat} (hx : x < N256) (nx : ¬ x < pP) (w : World) (hF : CFld w gf) :
    Calls Try.prog 30 #[cvV gf, ptV x y false] w fun e w' => e = .returned (.bool (onB x y false)) ∧ Below w.heap.size w w' := by
  have HG : Aside0 (gf < w.heap.size) := Aside0.mk hF.size
  obtain ⟨c, hc, HK⟩ := cmp_above hx nx
  have d1 : decide (0 ≤ c) = true := decide_eq_true hc
  have hres : onB x y false = false := by unfold onB; simp; omega
  rw [hres]
  clear hres
  have K1 := Aside0.mk (fun (u : World) => cp_calls u)
  have K2 := Aside0.mk HK
  clear HK nx hx
  go_enter Try.func30, Try.ntmps30
  go_upto_region 1 with (fail)
  refine wp_at (w2 := (World.alloc (World.alloc w (.cells (cvl gf).toArray 58)) (.cells (pw x y false).toArray 26))) rfl ?_
  obtain ⟨x_0, e_0, h_0, b_0, s_0⟩ := new_CvAt w gf
  obtain ⟨x_1, e_1, h_1, b_1, s_1⟩ := new_PtAt x_0 x y false
  rw [e_0, e_1]
  rw [s_0] at h_1 s_1
  have HB : Aside0 (Below w.heap.size w x_1) := Aside0.mk (bl_both b_0 b_1)
  have HC : Aside0 (CvAt x_1 (w.heap.size) gf) := Aside0.mk (h_0.on b_1)
  have HA : Aside0 (PtAt x_1 (w.heap.size + 1) x y false) := Aside0.mk h_1
  have HS : Aside0 (w.heap.size + 1 + 1 ≤ x_1.heap.size) := Aside0.mk (Nat.le_of_eq s_1.symm)
  have HF := Aside0.mk (hF.on HB.out)
  clear e_0 h_0 b_0 s_0 e_1 h_1 b_1 s_1 hF
  obtain ⟨w1, hw_⟩ : ∃ x, x = x_1 := ⟨_, rfl⟩
  subst hw_
  clear x_0
  have cq0 := HA.out.far
  go_upto_region 3 with (fail)
  clear cq0
  refine start_ (n := 12) (S := fun w' => Below w1.heap.size w1 w') (ds := []) (bs 12 0) (by kernel_rfl) rfl rfl ((Below.refl _ _).drew) (fun hHeld => ?_)
  refine pu_ 0 11 (bs 12 1) ?_ ?_ ?_ ?_ ?_
  rotate_left
  · intro w'
    go_simp
    with_reducible rfl
  rotate_left
  · simp only [aS, i64_w, i32_w]
    rfl
  refine take_ (i := 1) (N := some 12) (a' := ?_) (bs 12 3) rfl rfl (by kernel_rfl) (fun _ _ _ h => h) (yields_num (g := w.heap.size + 1) (o := 0) (n := x) (by rfl) (.tmp 11) rfl rfl (fun w' hS => (HA.out.on hS).rx)) hHeld ?_ ?_
  rotate_left
  · simp only [aS, i64_w, i32_w]
    rfl
  refine on1_ 2 (some 13) (bs 12 7) rfl fun K hK => ?_
  refine goes_ Try.func14 (by kernel_rfl) rfl #[] (by rfl) rfl rfl (by first | rfl | simp only [List.map_toArray, List.map_cons, List.map_nil]) ?_
  with_reducible refine (K1.out _).mono ?_
  rintro e u1 ⟨rfl, hb_u1⟩
  refine ⟨_, rfl, ?_⟩
  have hq_u1 := bl_on hHeld hb_u1 hHeld.size
  refine hK.out _ _ (hq_u1) (fun hHeld => ?_)
  clear hK K
  refine nm_ (some 13) ?_
  refine on1_ 3 (some 14) (bs 12 15) rfl fun K hK => ?_
  refine gs_ Try.func54 #[numV x, numV pP] rfl ?_
  with_reducible refine (K2.out _).mono ?_
  rintro e u2 ⟨rfl, hb_u2⟩
  refine ⟨_, rfl, ?_⟩
  have hq_u2 := bl_on hHeld hb_u2 hHeld.size
  refine hK.out _ _ (hq_u2) (fun hHeld => ?_)
  clear hK K
  refine nm_ (some 14) ?_
  refine pu_ 4 15 (bs 12 31) ?_ ?_ ?_ ?_ ?_
  rotate_left
  · intro w'
    go_simp
    with_reducible rfl
  rotate_left
  · simp only [aS, i64_w, i32_w]
    rfl
  refine pu_ 5 16 (bs 12 63) ?_ ?_ ?_ ?_ ?_
  rotate_left
  · intro w'
    go_simp
    with_reducible rfl
  rotate_left
  · simp only [aS, i64_w, i32_w]
    rfl
  refine pv_ 6 17 (bs 12 127) ?_ ?_ ?_
  rotate_left
  · simp only [aS, i64_w, i32_w]
    rfl
  refine pv_ 7 18 (bs 12 255) ?_ ?_ ?_
  rotate_left
  · simp only [aS, i64_w, i32_w]
    rfl
  refine pv_ 8 19 (bs 12 511) ?_ ?_ ?_
  rotate_left
  · simp only [aS, i64_w, i32_w]
    rfl
  refine pv_ 9 20 (bs 12 1023) ?_ ?_ ?_
  rotate_left
  · simp only [aS, i64_w, i32_w]
    rfl
  refine pv_ 10 21 (bs 12 2047) ?_ ?_ ?_
  rotate_left
  · simp only [aS, i64_w, i32_w]
    rfl
  refine pu_ 11 22 (bs 12 4095) ?_ ?_ ?_ ?_ ?_
  rotate_left
  · intro w'
    go_simp
    with_reducible rfl
  rotate_left
  · simp only [aS, i64_w, i32_w]
    rfl
  refine done_ (by kernel_rfl) ?_
  replace HC := Aside0.mk (HC.out.on hHeld)
  replace HA := Aside0.mk (HA.out.on hHeld)
  replace HF := Aside0.mk (HF.out.on hHeld)
  replace HB := Aside0.mk (bl_on HB.out hHeld HB.out.size)
  replace HS := Aside0.mk (Nat.le_trans HS.out hHeld.size)
  clear hb_u1 hb_u2 hHeld
  go_wp2
  go_ret
  exact ⟨rfl, HB.out⟩
set_option maxRecDepth 100000 in
set_option maxHeartbeats 8000000 in
theorem pon_y {gf : Nat} {x y : Nat} (b_x : x < pP) (hy : y < N256) (ny : ¬ y < pP) (w : World) (hF : CFld w gf) :
    Calls Try.prog 30 #[cvV gf, ptV x y false] w fun e w' => e = .returned (.bool (onB x y false)) ∧ Below w.heap.size w w' := by
  have HG : Aside0 (gf < w.heap.size) := Aside0.mk hF.size
  obtain ⟨c, hc, HK⟩ := cmp_above hy ny
  have d1 : decide (0 ≤ c) = true := decide_eq_true hc
  have hres : onB x y false = false := by unfold onB; simp; omega
  rw [hres]
  clear hres
  have K1 := Aside0.mk (fun (u : World) => cp_calls u)
  have K2 := Aside0.mk (fun (u : World) => cmp_below b_x u)
  have K3 := Aside0.mk HK
  clear HK ny hy b_x
  go_enter Try.func30, Try.ntmps30
  go_upto_region 1 with (fail)
  refine wp_at (w2 := (World.alloc (World.alloc w (.cells (cvl gf).toArray 58)) (.cells (pw x y false).toArray 26))) rfl ?_
  obtain ⟨x_0, e_0, h_0, b_0, s_0⟩ := new_CvAt w gf
  obtain ⟨x_1, e_1, h_1, b_1, s_1⟩ := new_PtAt x_0 x y false
  rw [e_0, e_1]
  rw [s_0] at h_1 s_1
  have HB : Aside0 (Below w.heap.size w x_1) := Aside0.mk (bl_both b_0 b_1)
  have HC : Aside0 (CvAt x_1 (w.heap.size) gf) := Aside0.mk (h_0.on b_1)
  have HA : Aside0 (PtAt x_1 (w.heap.size + 1) x y false) := Aside0.mk h_1
  have HS : Aside0 (w.heap.size + 1 + 1 ≤ x_1.heap.size) := Aside0.mk (Nat.le_of_eq s_1.symm)
  have HF := Aside0.mk (hF.on HB.out)
  clear e_0 h_0 b_0 s_0 e_1 h_1 b_1 s_1 hF
  obtain ⟨w1, hw_⟩ : ∃ x, x = x_1 := ⟨_, rfl⟩
  subst hw_
  clear x_0
  have cq0 := HA.out.far
  go_upto_region 3 with (fail)
  clear cq0
  refine start_ (n := 12) (S := fun w' => Below w1.heap.size w1 w') (ds := []) (bs 12 0) (by kernel_rfl) rfl rfl ((Below.refl _ _).drew) (fun hHeld => ?_)
  refine pu_ 0 11 (bs 12 1) ?_ ?_ ?_ ?_ ?_
  rotate_left
  · intro w'
    go_simp
    with_reducible rfl
  rotate_left
  · simp only [aS, i64_w, i32_w]
    rfl
  refine take_ (i := 1) (N := some 12) (a' := ?_) (bs 12 3) rfl rfl (by kernel_rfl) (fun _ _ _ h => h) (yields_num (g := w.heap.size + 1) (o := 0) (n := x) (by rfl) (.tmp 11) rfl rfl (fun w' hS => (HA.out.on hS).rx)) hHeld ?_ ?_
  rotate_left
  · simp only [aS, i64_w, i32_w]
    rfl
  refine on1_ 2 (some 13) (bs 12 7) rfl fun K hK => ?_
  refine goes_ Try.func14 (by kernel_rfl) rfl #[] (by rfl) rfl rfl (by first | rfl | simp only [List.map_toArray, List.map_cons, List.map_nil]) ?_
  with_reducible refine (K1.out _).mono ?_
  rintro e u3 ⟨rfl, hb_u3⟩
  refine ⟨_, rfl, ?_⟩
  have hq_u3 := bl_on hHeld hb_u3 hHeld.size
  refine hK.out _ _ (hq_u3) (fun hHeld => ?_)
  clear hK K
  refine nm_ (some 13) ?_
  refine on1_ 3 (some 14) (bs 12 15) rfl fun K hK => ?_
  refine gs_ Try.func54 #[numV x, numV pP] rfl ?_
  with_reducible refine (K2.out _).mono ?_
  rintro e u4 ⟨rfl, hb_u4⟩
  refine ⟨_, rfl, ?_⟩
  have hq_u4 := bl_on hHeld hb_u4 hHeld.size
  refine hK.out _ _ (hq_u4) (fun hHeld => ?_)
  clear hK K
  refine nm_ (some 14) ?_
  refine pu_ 4 15 (bs 12 31) ?_ ?_ ?_ ?_ ?_
  rotate_left
  · intro w'
    go_simp
    with_reducible rfl
  rotate_left
  · simp only [aS, i64_w, i32_w]
    rfl
  refine pu_ 5 16 (bs 12 63) ?_ ?_ ?_ ?_ ?_
  rotate_left
  · intro w'
    go_simp
    with_reducible rfl
  rotate_left
  · simp only [aS, i64_w, i32_w]
    rfl
  refine pu_ 6 17 (bs 12 127) ?_ ?_ ?_ ?_ ?_
  rotate_left
  · intro w'
    go_simp
    with_reducible rfl
  rotate_left
  · simp only [aS, i64_w, i32_w]
    rfl
  refine take_ (i := 7) (N := some 18) (a' := ?_) (bs 12 255) rfl rfl (by kernel_rfl) (fun _ _ _ h => h) (yields_num (g := w.heap.size + 1) (o := 4) (n := y) (by rfl) (.tmp 17) rfl rfl (fun w' hS => (HA.out.on hS).ry)) hHeld ?_ ?_
  rotate_left
  · simp only [aS, i64_w, i32_w]
    rfl
  refine on1_ 8 (some 19) (bs 12 511) rfl fun K hK => ?_
  refine goes_ Try.func14 (by kernel_rfl) rfl #[] (by rfl) rfl rfl (by first | rfl | simp only [List.map_toArray, List.map_cons, List.map_nil]) ?_
  with_reducible refine (K1.out _).mono ?_
  rintro e u5 ⟨rfl, hb_u5⟩
  refine ⟨_, rfl, ?_⟩
  have hq_u5 := bl_on hHeld hb_u5 hHeld.size
  refine hK.out _ _ (hq_u5) (fun hHeld => ?_)
  clear hK K
  refine nm_ (some 19) ?_
  refine on1_ 9 (some 20) (bs 12 1023) rfl fun K hK => ?_
  refine gs_ Try.func54 #[numV y, numV pP] rfl ?_
  with_reducible refine (K3.out _).mono ?_
  rintro e u6 ⟨rfl, hb_u6⟩
  refine ⟨_, rfl, ?_⟩
  have hq_u6 := bl_on hHeld hb_u6 hHeld.size
  refine hK.out _ _ (hq_u6) (fun hHeld => ?_)
  clear hK K
  refine nm_ (some 20) ?_
  refine pu_ 10 21 (bs 12 2047) ?_ ?_ ?_ ?_ ?_
  rotate_left
  · intro w'
    go_simp
    with_reducible rfl
  rotate_left
  · simp only [aS, i64_w, i32_w]
    rfl
  refine pu_ 11 22 (bs 12 4095) ?_ ?_ ?_ ?_ ?_
  rotate_left
  · intro w'
    go_simp
    with_reducible rfl
  rotate_left
  · simp only [aS, i64_w, i32_w]
    rfl
  refine done_ (by kernel_rfl) ?_
  replace HC := Aside0.mk (HC.out.on hHeld)
  replace HA := Aside0.mk (HA.out.on hHeld)
  replace HF := Aside0.mk (HF.out.on hHeld)
  replace HB := Aside0.mk (bl_on HB.out hHeld HB.out.size)
  replace HS := Aside0.mk (Nat.le_trans HS.out hHeld.size)
  clear hb_u3 hb_u4 hb_u5 hb_u6 hHeld
  go_wp2
  go_ret
  exact ⟨rfl, HB.out⟩
set_option maxRecDepth 100000 in
set_option maxHeartbeats 8000000 in
theorem pon_ok {gf : Nat} {x y : Nat} (b_x : x < pP) (b_y : y < pP) (w : World) (hF : CFld w gf) :
    Calls Try.prog 30 #[cvV gf, ptV x y false] w fun e w' => e = .returned (.bool (onB x y false)) ∧ Below w.heap.size w w' := by
  have HG : Aside0 (gf < w.heap.size) := Aside0.mk hF.size
  obtain ⟨t1, e_t1⟩ : ∃ t, t = x * x % pP := ⟨_, rfl⟩
  have b_t1 : t1 < pP := by rw [e_t1]; exact mod_p _
  obtain ⟨t2, e_t2⟩ : ∃ t, t = t1 * x % pP := ⟨_, rfl⟩
  have b_t2 : t2 < pP := by rw [e_t2]; exact mod_p _
  obtain ⟨t3, e_t3⟩ : ∃ t, t = x * 3 % pP := ⟨_, rfl⟩
  have b_t3 : t3 < pP := by rw [e_t3]; exact mod_p _
  obtain ⟨t4, e_t4⟩ : ∃ t, t = (t2 + pP - t3) % pP := ⟨_, rfl⟩
  have b_t4 : t4 < pP := by rw [e_t4]; exact mod_p _
  obtain ⟨t5, e_t5⟩ : ∃ t, t = (t4 + cB) % pP := ⟨_, rfl⟩
  have b_t5 : t5 < pP := by rw [e_t5]; exact mod_p _
  obtain ⟨t6, e_t6⟩ : ∃ t, t = y * y % pP := ⟨_, rfl⟩
  have b_t6 : t6 < pP := by rw [e_t6]; exact mod_p _
  have K1 := Aside0.mk (fun (u : World) => cp_calls u)
  have K2 := Aside0.mk (fun (u : World) => cmp_below b_x u)
  have K3 := Aside0.mk (fun (u : World) => cmp_below b_y u)
  have K4 := Aside0.mk (fun (u : World) (h : CFld u gf) => psquare_calls b_x u h)
  have K5 := Aside0.mk (fun (u : World) (h : CFld u gf) => pmul_calls b_t1 b_x u h)
  have K6 := Aside0.mk (fun (u : World) (h : CFld u gf) => ptimes_calls b_x (show 3 < pP by decide +kernel) (by decide) u h)
  have K7 := Aside0.mk (fun (u : World) (h : CFld u gf) => psub_calls b_t2 b_t3 u h)
  have K8 := Aside0.mk (fun (u : World) => cb_calls u)
  have K9 := Aside0.mk (fun (u : World) (h : CFld u gf) => padd_calls b_t4 cB_lt u h)
  have K10 := Aside0.mk (fun (u : World) (h : CFld u gf) => psquare_calls b_y u h)
  rw [← e_t1] at K4
  rw [← e_t2] at K5
  rw [← e_t3] at K6
  rw [← e_t4] at K7
  rw [← e_t5] at K9
  rw [← e_t6] at K10
  have hres : onB x y false = decide (t6 = t5) := by
    have e1 : mmp y y = t6 := by rw [e_t6]; rfl
    have e2 : adp (msp (mmp (mmp x x) x) (mmp x 3)) cB = t5 := by rw [e_t5, e_t4, e_t3, e_t2, e_t1]; rfl
    rw [on_iff b_x b_y, e1, e2]
  rw [hres]
  have hq := fun w => eql_num (lt_N b_t6) (lt_N b_t5) w
  generalize decide (t6 = t5) = D at *
  clear e_t1 e_t2 e_t3 e_t4 e_t5 e_t6 b_t1 b_t2 b_t3 b_t4 b_t5 b_t6 hres b_x b_y
  go_enter Try.func30, Try.ntmps30
  go_upto_region 1 with (fail)
  refine wp_at (w2 := (World.alloc (World.alloc w (.cells (cvl gf).toArray 58)) (.cells (pw x y false).toArray 26))) rfl ?_
  obtain ⟨x_0, e_0, h_0, b_0, s_0⟩ := new_CvAt w gf
  obtain ⟨x_1, e_1, h_1, b_1, s_1⟩ := new_PtAt x_0 x y false
  rw [e_0, e_1]
  rw [s_0] at h_1 s_1
  have HB : Aside0 (Below w.heap.size w x_1) := Aside0.mk (bl_both b_0 b_1)
  have HC : Aside0 (CvAt x_1 (w.heap.size) gf) := Aside0.mk (h_0.on b_1)
  have HA : Aside0 (PtAt x_1 (w.heap.size + 1) x y false) := Aside0.mk h_1
  have HS : Aside0 (w.heap.size + 1 + 1 ≤ x_1.heap.size) := Aside0.mk (Nat.le_of_eq s_1.symm)
  have HF := Aside0.mk (hF.on HB.out)
  clear e_0 h_0 b_0 s_0 e_1 h_1 b_1 s_1 hF
  obtain ⟨w1, hw_⟩ : ∃ x, x = x_1 := ⟨_, rfl⟩
  subst hw_
  clear x_0
  have cq0 := HA.out.far
  go_upto_region 3 with (fail)
  clear cq0
  refine start_ (n := 12) (S := fun w' => Below w1.heap.size w1 w') (ds := []) (bs 12 0) (by kernel_rfl) rfl rfl ((Below.refl _ _).drew) (fun hHeld => ?_)
  refine pu_ 0 11 (bs 12 1) ?_ ?_ ?_ ?_ ?_
  rotate_left
  · intro w'
    go_simp
    with_reducible rfl
  rotate_left
  · simp only [aS, i64_w, i32_w]
    rfl
  refine take_ (i := 1) (N := some 12) (a' := ?_) (bs 12 3) rfl rfl (by kernel_rfl) (fun _ _ _ h => h) (yields_num (g := w.heap.size + 1) (o := 0) (n := x) (by rfl) (.tmp 11) rfl rfl (fun w' hS => (HA.out.on hS).rx)) hHeld ?_ ?_
  rotate_left
  · simp only [aS, i64_w, i32_w]
    rfl
  refine on1_ 2 (some 13) (bs 12 7) rfl fun K hK => ?_
  refine goes_ Try.func14 (by kernel_rfl) rfl #[] (by rfl) rfl rfl (by first | rfl | simp only [List.map_toArray, List.map_cons, List.map_nil]) ?_
  with_reducible refine (K1.out _).mono ?_
  rintro e u7 ⟨rfl, hb_u7⟩
  refine ⟨_, rfl, ?_⟩
  have hq_u7 := bl_on hHeld hb_u7 hHeld.size
  refine hK.out _ _ (hq_u7) (fun hHeld => ?_)
  clear hK K
  refine nm_ (some 13) ?_
  refine on1_ 3 (some 14) (bs 12 15) rfl fun K hK => ?_
  refine gs_ Try.func54 #[numV x, numV pP] rfl ?_
  with_reducible refine (K2.out _).mono ?_
  rintro e u8 ⟨rfl, hb_u8⟩
  refine ⟨_, rfl, ?_⟩
  have hq_u8 := bl_on hHeld hb_u8 hHeld.size
  refine hK.out _ _ (hq_u8) (fun hHeld => ?_)
  clear hK K
  refine nm_ (some 14) ?_
  refine pu_ 4 15 (bs 12 31) ?_ ?_ ?_ ?_ ?_
  rotate_left
  · intro w'
    go_simp
    with_reducible rfl
  rotate_left
  · simp only [aS, i64_w, i32_w]
    rfl
  refine pu_ 5 16 (bs 12 63) ?_ ?_ ?_ ?_ ?_
  rotate_left
  · intro w'
    go_simp
    with_reducible rfl
  rotate_left
  · simp only [aS, i64_w, i32_w]
    rfl
  refine pu_ 6 17 (bs 12 127) ?_ ?_ ?_ ?_ ?_
  rotate_left
  · intro w'
    go_simp
    with_reducible rfl
  rotate_left
  · simp only [aS, i64_w, i32_w]
    rfl
  refine take_ (i := 7) (N := some 18) (a' := ?_) (bs 12 255) rfl rfl (by kernel_rfl) (fun _ _ _ h => h) (yields_num (g := w.heap.size + 1) (o := 4) (n := y) (by rfl) (.tmp 17) rfl rfl (fun w' hS => (HA.out.on hS).ry)) hHeld ?_ ?_
  rotate_left
  · simp only [aS, i64_w, i32_w]
    rfl
  refine on1_ 8 (some 19) (bs 12 511) rfl fun K hK => ?_
  refine goes_ Try.func14 (by kernel_rfl) rfl #[] (by rfl) rfl rfl (by first | rfl | simp only [List.map_toArray, List.map_cons, List.map_nil]) ?_
  with_reducible refine (K1.out _).mono ?_
  rintro e u9 ⟨rfl, hb_u9⟩
  refine ⟨_, rfl, ?_⟩
  have hq_u9 := bl_on hHeld hb_u9 hHeld.size
  refine hK.out _ _ (hq_u9) (fun hHeld => ?_)
  clear hK K
  refine nm_ (some 19) ?_
  refine on1_ 9 (some 20) (bs 12 1023) rfl fun K hK => ?_
  refine gs_ Try.func54 #[numV y, numV pP] rfl ?_
  with_reducible refine (K3.out _).mono ?_
  rintro e u10 ⟨rfl, hb_u10⟩
  refine ⟨_, rfl, ?_⟩
  have hq_u10 := bl_on hHeld hb_u10 hHeld.size
  refine hK.out _ _ (hq_u10) (fun hHeld => ?_)
  clear hK K
  refine nm_ (some 20) ?_
  refine pu_ 10 21 (bs 12 2047) ?_ ?_ ?_ ?_ ?_
  rotate_left
  · intro w'
    go_simp
    with_reducible rfl
  rotate_left
  · simp only [aS, i64_w, i32_w]
    rfl
  refine pu_ 11 22 (bs 12 4095) ?_ ?_ ?_ ?_ ?_
  rotate_left
  · intro w'
    go_simp
    with_reducible rfl
  rotate_left
  · simp only [aS, i64_w, i32_w]
    rfl
  refine done_ (by kernel_rfl) ?_
  replace HC := Aside0.mk (HC.out.on hHeld)
  replace HA := Aside0.mk (HA.out.on hHeld)
  replace HF := Aside0.mk (HF.out.on hHeld)
  replace HB := Aside0.mk (bl_on HB.out hHeld HB.out.size)
  replace HS := Aside0.mk (Nat.le_trans HS.out hHeld.size)
  clear hb_u7 hb_u8 hb_u9 hb_u10 hHeld
  go_wp2
  refine start_ (n := 22) (S := fun w' => Below u10.heap.size u10 w' ∧ w'.cell? ⟨w.heap.size, 1, none⟩ = some (mthV 51 gf) ∧ w'.cell? ⟨w.heap.size, 2, none⟩ = some (mthV 52 gf) ∧ w'.cell? ⟨w.heap.size, 3, none⟩ = some (mthV 53 gf)) (ds := [21]) (bs 22 0) (by kernel_rfl) rfl rfl ⟨(Below.refl _ _).drew, HC.out.c1, HC.out.c2, HC.out.c3⟩ (fun hHeld => ?_)
  refine pu_ 0 23 (bs 22 1) ?_ ?_ ?_ ?_ ?_
  rotate_left
  · intro w'
    go_simp
    with_reducible rfl
  rotate_left
  · simp only [aS, i64_w, i32_w]
    rfl
  refine pu_ 2 25 (bs 22 5) ?_ ?_ ?_ ?_ ?_
  rotate_left
  · intro w'
    go_simp
    with_reducible rfl
  rotate_left
  · simp only [aS, i64_w, i32_w]
    rfl
  refine pu_ 4 27 (bs 22 21) ?_ ?_ ?_ ?_ ?_
  rotate_left
  · intro w'
    go_simp
    with_reducible rfl
  rotate_left
  · simp only [aS, i64_w, i32_w]
    rfl
  refine pu_ 7 30 (bs 22 149) ?_ ?_ ?_ ?_ ?_
  rotate_left
  · intro w'
    go_simp
    with_reducible rfl
  rotate_left
  · simp only [aS, i64_w, i32_w]
    rfl
  refine pu_ 10 33 (bs 22 1173) ?_ ?_ ?_ ?_ ?_
  rotate_left
  · intro w'
    go_simp
    with_reducible rfl
  rotate_left
  · simp only [aS, i64_w, i32_w]
    rfl
  refine pu_ 14 37 (bs 22 17557) ?_ ?_ ?_ ?_ ?_
  rotate_left
  · intro w'
    go_simp
    with_reducible rfl
  rotate_left
  · simp only [aS, i64_w, i32_w]
    rfl
  refine tk_ 1 24 (bs 22 17559) ?_ ?_ hHeld ?_ ?_ ?_
  rotate_left
  · rintro w' ⟨s0, s1, s2, s3⟩
    go_simp
    with_reducible rfl
  rotate_left
  · simp only [aS, i64_w, i32_w]
    rfl
  refine tk_ 3 26 (bs 22 17567) ?_ ?_ hHeld ?_ ?_ ?_
  rotate_left
  · rintro w' ⟨s0, s1, s2, s3⟩
    go_simp
    with_reducible rfl
  rotate_left
  · simp only [aS, i64_w, i32_w]
    rfl
  refine tk_ 5 28 (bs 22 17599) ?_ ?_ hHeld ?_ ?_ ?_
  rotate_left
  · rintro w' ⟨s0, s1, s2, s3⟩
    go_simp
    with_reducible rfl
  rotate_left
  · simp only [aS, i64_w, i32_w]
    rfl
  refine take_ (i := 6) (N := some 29) (a' := ?_) (bs 22 17663) rfl rfl (by kernel_rfl) (fun _ _ _ h => h) (yieldsIf_load_mid (by rfl) 58 (.tmp 2) rfl w.heap.size 0 rfl ((cvl gf)) _ (fun w' hS => (HC.out.on hS.1).range) rfl rfl (rfl)) hHeld ?_ ?_
  rotate_left
  · simp only [aS, i64_w, i32_w]
    rfl
  refine take_ (i := 8) (N := some 31) (a' := ?_) (bs 22 17919) rfl rfl (by kernel_rfl) (fun _ _ _ h => h) (yields_num (g := w.heap.size + 1) (o := 0) (n := x) (by rfl) (.tmp 30) rfl rfl (fun w' hS => (HA.out.on hS.1).rx)) hHeld ?_ ?_
  rotate_left
  · simp only [aS, i64_w, i32_w]
    rfl
  refine take_ (i := 11) (N := some 34) (a' := ?_) (bs 22 19967) rfl rfl (by kernel_rfl) (fun _ _ _ h => h) (yields_num (g := w.heap.size + 1) (o := 0) (n := x) (by rfl) (.tmp 33) rfl rfl (fun w' hS => (HA.out.on hS.1).rx)) hHeld ?_ ?_
  rotate_left
  · simp only [aS, i64_w, i32_w]
    rfl
  refine take_ (i := 13) (N := some 36) (a' := ?_) (bs 22 28159) rfl rfl (by kernel_rfl) (fun _ _ _ h => h) (yieldsIf_load_mid (by rfl) 58 (.tmp 2) rfl w.heap.size 0 rfl ((cvl gf)) _ (fun w' hS => (HC.out.on hS.1).range) rfl rfl (rfl)) hHeld ?_ ?_
  rotate_left
  · simp only [aS, i64_w, i32_w]
    rfl
  refine take_ (i := 15) (N := some 38) (a' := ?_) (bs 22 60927) rfl rfl (by kernel_rfl) (fun _ _ _ h => h) (yields_num (g := w.heap.size + 1) (o := 0) (n := x) (by rfl) (.tmp 37) rfl rfl (fun w' hS => (HA.out.on hS.1).rx)) hHeld ?_ ?_
  rotate_left
  · simp only [aS, i64_w, i32_w]
    rfl
  refine join_ (σ := Nat) 1 (bs 22 2097151) (fun s => [(5, .pointer (some ⟨s, 0, none⟩)), (32, numV t1), (35, numV t2), (39, numV t3), (40, numV t4), (41, numV cB), (42, numV t5)]) (fun s w' => Below u10.heap.size u10 w' ∧ NAt w' s 0 ∧ u10.heap.size ≤ s) ?_ ?_
  rotate_left
  · intro hCont
    refine tw_ 9 20 (some 32) (some 5) (bs 22 61439) (bs 22 1109503) rfl rfl (fun K hK => ?_) (fun K hK => ?_)
    · skip
      refine gs_ Try.func55 #[cvV gf, numV x] rfl ?_
      with_reducible refine (K4.out _ (HF.out.on hHeld.1)).mono ?_
      rintro e u11 ⟨rfl, hb_u11⟩
      refine ⟨_, rfl, ?_⟩
      have hq_u11 := bl_on hHeld.1 hb_u11 hHeld.1.size
      refine hK.out _ _ ⟨hq_u11, (HC.out.on (hq_u11)).c1, (HC.out.on (hq_u11)).c2, (HC.out.on (hq_u11)).c3⟩ (fun hHeld => ?_)
      clear hK K
      refine nm_ (some 32) ?_
      refine tw_ 12 20 (some 35) (some 5) (bs 22 65535) (bs 22 1110015) rfl rfl (fun K hK => ?_) (fun K hK => ?_)
      · skip
        refine gF_ Try.func53 gf (numV t1) (numV x) rfl ?_
        with_reducible refine (K5.out _ (HF.out.on hHeld.1)).mono ?_
        rintro e u12 ⟨rfl, hb_u12⟩
        refine ⟨_, rfl, ?_⟩
        have hq_u12 := bl_on hHeld.1 hb_u12 hHeld.1.size
        refine hK.out _ _ ⟨hq_u12, (HC.out.on (hq_u12)).c1, (HC.out.on (hq_u12)).c2, (HC.out.on (hq_u12)).c3⟩ (fun hHeld => ?_)
        clear hK K
        refine nm_ (some 35) ?_
        refine tw_ 16 20 (some 39) (some 5) (bs 22 131071) (bs 22 1114111) rfl rfl (fun K hK => ?_) (fun K hK => ?_)
        · skip
          refine gs_ Try.func56 #[cvV gf, numV x, .int .u64 ((3 : Nat) : Int)] rfl ?_
          with_reducible refine (K6.out _ (HF.out.on hHeld.1)).mono ?_
          rintro e u13 ⟨rfl, hb_u13⟩
          refine ⟨_, rfl, ?_⟩
          have hq_u13 := bl_on hHeld.1 hb_u13 hHeld.1.size
          refine hK.out _ _ ⟨hq_u13, (HC.out.on (hq_u13)).c1, (HC.out.on (hq_u13)).c2, (HC.out.on (hq_u13)).c3⟩ (fun hHeld => ?_)
          clear hK K
          refine nm_ (some 39) ?_
          refine tw_ 17 20 (some 40) (some 5) (bs 22 262143) (bs 22 1179647) rfl rfl (fun K hK => ?_) (fun K hK => ?_)
          · skip
            refine gF_ Try.func52 gf (numV t2) (numV t3) rfl ?_
            with_reducible refine (K7.out _ (HF.out.on hHeld.1)).mono ?_
            rintro e u14 ⟨rfl, hb_u14⟩
            refine ⟨_, rfl, ?_⟩
            have hq_u14 := bl_on hHeld.1 hb_u14 hHeld.1.size
            refine hK.out _ _ ⟨hq_u14, (HC.out.on (hq_u14)).c1, (HC.out.on (hq_u14)).c2, (HC.out.on (hq_u14)).c3⟩ (fun hHeld => ?_)
            clear hK K
            refine nm_ (some 40) ?_
            refine tw_ 18 20 (some 41) (some 5) (bs 22 524287) (bs 22 1310719) rfl rfl (fun K hK => ?_) (fun K hK => ?_)
            · skip
              refine goes_ Try.func57 (by kernel_rfl) rfl #[] (by rfl) rfl rfl (by first | rfl | simp only [List.map_toArray, List.map_cons, List.map_nil]) ?_
              with_reducible refine (K8.out _).mono ?_
              rintro e u15 ⟨rfl, hb_u15⟩
              refine ⟨_, rfl, ?_⟩
              have hq_u15 := bl_on hHeld.1 hb_u15 hHeld.1.size
              refine hK.out _ _ ⟨hq_u15, (HC.out.on (hq_u15)).c1, (HC.out.on (hq_u15)).c2, (HC.out.on (hq_u15)).c3⟩ (fun hHeld => ?_)
              clear hK K
              refine nm_ (some 41) ?_
              refine tw_ 19 20 (some 42) (some 5) (bs 22 1048575) (bs 22 1572863) rfl rfl (fun K hK => ?_) (fun K hK => ?_)
              · skip
                refine gF_ Try.func51 gf (numV t4) (numV cB) rfl ?_
                with_reducible refine (K9.out _ (HF.out.on hHeld.1)).mono ?_
                rintro e u16 ⟨rfl, hb_u16⟩
                refine ⟨_, rfl, ?_⟩
                have hq_u16 := bl_on hHeld.1 hb_u16 hHeld.1.size
                refine hK.out _ _ ⟨hq_u16, (HC.out.on (hq_u16)).c1, (HC.out.on (hq_u16)).c2, (HC.out.on (hq_u16)).c3⟩ (fun hHeld => ?_)
                clear hK K
                refine nm_ (some 42) ?_
                refine on1_ 20 (some 5) (bs 22 2097151) rfl fun K hK => ?_
                refine value_ (w1 := ?_) (v := ?_) (by rfl) rfl ?_ ?_
                rotate_left 2
                · go_simp
                  constructor
                  · rfl
                  · rfl
                have hzg5 : NAt (World.alloc u16 (.cells (nw 0).toArray 24)) (u16.heap.size) 0 := by have h_ := Row.new u16 24 (nw 0); first | exact h_ | (simp only [alloc_sz] at h_; exact h_) | omega
                have hsg5 : u10.heap.size ≤ u16.heap.size := by have h_ := hHeld.1.size; first | exact h_ | (simp only [alloc_sz] at h_; exact h_) | omega
                refine hK.out _ _ ⟨below_alloc hHeld.1 _, (HC.out.on (below_alloc hHeld.1 _)).c1, (HC.out.on (below_alloc hHeld.1 _)).c2, (HC.out.on (below_alloc hHeld.1 _)).c3⟩ (fun hHeld => ?_)
                clear hK K
                refine nm_ (some 5) ?_
                exact norm_ (by simp only [putAll, aS]) (hCont (u16.heap.size) _ ⟨hHeld.1, hzg5, hsg5⟩)
              · skip
                refine value_ (w1 := ?_) (v := ?_) (by rfl) rfl ?_ ?_
                rotate_left 2
                · go_simp
                  constructor
                  · rfl
                  · rfl
                have hzg5 : NAt (World.alloc u15 (.cells (nw 0).toArray 24)) (u15.heap.size) 0 := by have h_ := Row.new u15 24 (nw 0); first | exact h_ | (simp only [alloc_sz] at h_; exact h_) | omega
                have hsg5 : u10.heap.size ≤ u15.heap.size := by have h_ := hHeld.1.size; first | exact h_ | (simp only [alloc_sz] at h_; exact h_) | omega
                refine hK.out _ _ ⟨below_alloc hHeld.1 _, (HC.out.on (below_alloc hHeld.1 _)).c1, (HC.out.on (below_alloc hHeld.1 _)).c2, (HC.out.on (below_alloc hHeld.1 _)).c3⟩ (fun hHeld => ?_)
                clear hK K
                refine nm_ (some 5) ?_
                refine on1_ 19 (some 42) (bs 22 2097151) rfl fun K hK => ?_
                refine gF_ Try.func51 gf (numV t4) (numV cB) rfl ?_
                with_reducible refine (K9.out _ (HF.out.on hHeld.1)).mono ?_
                rintro e u16 ⟨rfl, hb_u16⟩
                refine ⟨_, rfl, ?_⟩
                have hq_u16 := bl_on hHeld.1 hb_u16 hHeld.1.size
                replace hzg5 := hzg5.on hb_u16
                refine hK.out _ _ ⟨hq_u16, (HC.out.on (hq_u16)).c1, (HC.out.on (hq_u16)).c2, (HC.out.on (hq_u16)).c3⟩ (fun hHeld => ?_)
                clear hK K
                refine nm_ (some 42) ?_
                exact norm_ (by simp only [putAll, aS]) (hCont (u15.heap.size) _ ⟨hHeld.1, hzg5, hsg5⟩)
            · skip
              refine value_ (w1 := ?_) (v := ?_) (by rfl) rfl ?_ ?_
              rotate_left 2
              · go_simp
                constructor
                · rfl
                · rfl
              have hzg5 : NAt (World.alloc u14 (.cells (nw 0).toArray 24)) (u14.heap.size) 0 := by have h_ := Row.new u14 24 (nw 0); first | exact h_ | (simp only [alloc_sz] at h_; exact h_) | omega
              have hsg5 : u10.heap.size ≤ u14.heap.size := by have h_ := hHeld.1.size; first | exact h_ | (simp only [alloc_sz] at h_; exact h_) | omega
              refine hK.out _ _ ⟨below_alloc hHeld.1 _, (HC.out.on (below_alloc hHeld.1 _)).c1, (HC.out.on (below_alloc hHeld.1 _)).c2, (HC.out.on (below_alloc hHeld.1 _)).c3⟩ (fun hHeld => ?_)
              clear hK K
              refine nm_ (some 5) ?_
              refine on1_ 18 (some 41) (bs 22 1572863) rfl fun K hK => ?_
              refine goes_ Try.func57 (by kernel_rfl) rfl #[] (by rfl) rfl rfl (by first | rfl | simp only [List.map_toArray, List.map_cons, List.map_nil]) ?_
              with_reducible refine (K8.out _).mono ?_
              rintro e u15 ⟨rfl, hb_u15⟩
              refine ⟨_, rfl, ?_⟩
              have hq_u15 := bl_on hHeld.1 hb_u15 hHeld.1.size
              replace hzg5 := hzg5.on hb_u15
              refine hK.out _ _ ⟨hq_u15, (HC.out.on (hq_u15)).c1, (HC.out.on (hq_u15)).c2, (HC.out.on (hq_u15)).c3⟩ (fun hHeld => ?_)
              clear hK K
              refine nm_ (some 41) ?_
              refine on1_ 19 (some 42) (bs 22 2097151) rfl fun K hK => ?_
              refine gF_ Try.func51 gf (numV t4) (numV cB) rfl ?_
              with_reducible refine (K9.out _ (HF.out.on hHeld.1)).mono ?_
              rintro e u16 ⟨rfl, hb_u16⟩
              refine ⟨_, rfl, ?_⟩
              have hq_u16 := bl_on hHeld.1 hb_u16 hHeld.1.size
              replace hzg5 := hzg5.on hb_u16
              refine hK.out _ _ ⟨hq_u16, (HC.out.on (hq_u16)).c1, (HC.out.on (hq_u16)).c2, (HC.out.on (hq_u16)).c3⟩ (fun hHeld => ?_)
              clear hK K
              refine nm_ (some 42) ?_
              exact norm_ (by simp only [putAll, aS]) (hCont (u14.heap.size) _ ⟨hHeld.1, hzg5, hsg5⟩)
          · skip
            refine value_ (w1 := ?_) (v := ?_) (by rfl) rfl ?_ ?_
            rotate_left 2
            · go_simp
              constructor
              · rfl
              · rfl
            have hzg5 : NAt (World.alloc u13 (.cells (nw 0).toArray 24)) (u13.heap.size) 0 := by have h_ := Row.new u13 24 (nw 0); first | exact h_ | (simp only [alloc_sz] at h_; exact h_) | omega
            have hsg5 : u10.heap.size ≤ u13.heap.size := by have h_ := hHeld.1.size; first | exact h_ | (simp only [alloc_sz] at h_; exact h_) | omega
            refine hK.out _ _ ⟨below_alloc hHeld.1 _, (HC.out.on (below_alloc hHeld.1 _)).c1, (HC.out.on (below_alloc hHeld.1 _)).c2, (HC.out.on (below_alloc hHeld.1 _)).c3⟩ (fun hHeld => ?_)
            clear hK K
            refine nm_ (some 5) ?_
            refine on1_ 17 (some 40) (bs 22 1310719) rfl fun K hK => ?_
            refine gF_ Try.func52 gf (numV t2) (numV t3) rfl ?_
            with_reducible refine (K7.out _ (HF.out.on hHeld.1)).mono ?_
            rintro e u14 ⟨rfl, hb_u14⟩
            refine ⟨_, rfl, ?_⟩
            have hq_u14 := bl_on hHeld.1 hb_u14 hHeld.1.size
            replace hzg5 := hzg5.on hb_u14
            refine hK.out _ _ ⟨hq_u14, (HC.out.on (hq_u14)).c1, (HC.out.on (hq_u14)).c2, (HC.out.on (hq_u14)).c3⟩ (fun hHeld => ?_)
            clear hK K
            refine nm_ (some 40) ?_
            refine on1_ 18 (some 41) (bs 22 1572863) rfl fun K hK => ?_
            refine goes_ Try.func57 (by kernel_rfl) rfl #[] (by rfl) rfl rfl (by first | rfl | simp only [List.map_toArray, List.map_cons, List.map_nil]) ?_
            with_reducible refine (K8.out _).mono ?_
            rintro e u15 ⟨rfl, hb_u15⟩
            refine ⟨_, rfl, ?_⟩
            have hq_u15 := bl_on hHeld.1 hb_u15 hHeld.1.size
            replace hzg5 := hzg5.on hb_u15
            refine hK.out _ _ ⟨hq_u15, (HC.out.on (hq_u15)).c1, (HC.out.on (hq_u15)).c2, (HC.out.on (hq_u15)).c3⟩ (fun hHeld => ?_)
            clear hK K
            refine nm_ (some 41) ?_
            refine on1_ 19 (some 42) (bs 22 2097151) rfl fun K hK => ?_
            refine gF_ Try.func51 gf (numV t4) (numV cB) rfl ?_
            with_reducible refine (K9.out _ (HF.out.on hHeld.1)).mono ?_
            rintro e u16 ⟨rfl, hb_u16⟩
            refine ⟨_, rfl, ?_⟩
            have hq_u16 := bl_on hHeld.1 hb_u16 hHeld.1.size
            replace hzg5 := hzg5.on hb_u16
            refine hK.out _ _ ⟨hq_u16, (HC.out.on (hq_u16)).c1, (HC.out.on (hq_u16)).c2, (HC.out.on (hq_u16)).c3⟩ (fun hHeld => ?_)
            clear hK K
            refine nm_ (some 42) ?_
            exact norm_ (by simp only [putAll, aS]) (hCont (u13.heap.size) _ ⟨hHeld.1, hzg5, hsg5⟩)
        · skip
          refine value_ (w1 := ?_) (v := ?_) (by rfl) rfl ?_ ?_
          rotate_left 2
          · go_simp
            constructor
            · rfl
            · rfl
          have hzg5 : NAt (World.alloc u12 (.cells (nw 0).toArray 24)) (u12.heap.size) 0 := by have h_ := Row.new u12 24 (nw 0); first | exact h_ | (simp only [alloc_sz] at h_; exact h_) | omega
          have hsg5 : u10.heap.size ≤ u12.heap.size := by have h_ := hHeld.1.size; first | exact h_ | (simp only [alloc_sz] at h_; exact h_) | omega
          refine hK.out _ _ ⟨below_alloc hHeld.1 _, (HC.out.on (below_alloc hHeld.1 _)).c1, (HC.out.on (below_alloc hHeld.1 _)).c2, (HC.out.on (below_alloc hHeld.1 _)).c3⟩ (fun hHeld => ?_)
          clear hK K
          refine nm_ (some 5) ?_
          refine on1_ 16 (some 39) (bs 22 1179647) rfl fun K hK => ?_
          refine gs_ Try.func56 #[cvV gf, numV x, .int .u64 ((3 : Nat) : Int)] rfl ?_
          with_reducible refine (K6.out _ (HF.out.on hHeld.1)).mono ?_
          rintro e u13 ⟨rfl, hb_u13⟩
          refine ⟨_, rfl, ?_⟩
          have hq_u13 := bl_on hHeld.1 hb_u13 hHeld.1.size
          replace hzg5 := hzg5.on hb_u13
          refine hK.out _ _ ⟨hq_u13, (HC.out.on (hq_u13)).c1, (HC.out.on (hq_u13)).c2, (HC.out.on (hq_u13)).c3⟩ (fun hHeld => ?_)
          clear hK K
          refine nm_ (some 39) ?_
          refine on1_ 17 (some 40) (bs 22 1310719) rfl fun K hK => ?_
          refine gF_ Try.func52 gf (numV t2) (numV t3) rfl ?_
          with_reducible refine (K7.out _ (HF.out.on hHeld.1)).mono ?_
          rintro e u14 ⟨rfl, hb_u14⟩
          refine ⟨_, rfl, ?_⟩
          have hq_u14 := bl_on hHeld.1 hb_u14 hHeld.1.size
          replace hzg5 := hzg5.on hb_u14
          refine hK.out _ _ ⟨hq_u14, (HC.out.on (hq_u14)).c1, (HC.out.on (hq_u14)).c2, (HC.out.on (hq_u14)).c3⟩ (fun hHeld => ?_)
          clear hK K
          refine nm_ (some 40) ?_
          refine on1_ 18 (some 41) (bs 22 1572863) rfl fun K hK => ?_
          refine goes_ Try.func57 (by kernel_rfl) rfl #[] (by rfl) rfl rfl (by first | rfl | simp only [List.map_toArray, List.map_cons, List.map_nil]) ?_
          with_reducible refine (K8.out _).mono ?_
          rintro e u15 ⟨rfl, hb_u15⟩
          refine ⟨_, rfl, ?_⟩
          have hq_u15 := bl_on hHeld.1 hb_u15 hHeld.1.size
          replace hzg5 := hzg5.on hb_u15
          refine hK.out _ _ ⟨hq_u15, (HC.out.on (hq_u15)).c1, (HC.out.on (hq_u15)).c2, (HC.out.on (hq_u15)).c3⟩ (fun hHeld => ?_)
          clear hK K
          refine nm_ (some 41) ?_
          refine on1_ 19 (some 42) (bs 22 2097151) rfl fun K hK => ?_
          refine gF_ Try.func51 gf (numV t4) (numV cB) rfl ?_
          with_reducible refine (K9.out _ (HF.out.on hHeld.1)).mono ?_
          rintro e u16 ⟨rfl, hb_u16⟩
          refine ⟨_, rfl, ?_⟩
          have hq_u16 := bl_on hHeld.1 hb_u16 hHeld.1.size
          replace hzg5 := hzg5.on hb_u16
          refine hK.out _ _ ⟨hq_u16, (HC.out.on (hq_u16)).c1, (HC.out.on (hq_u16)).c2, (HC.out.on (hq_u16)).c3⟩ (fun hHeld => ?_)
          clear hK K
          refine nm_ (some 42) ?_
          exact norm_ (by simp only [putAll, aS]) (hCont (u12.heap.size) _ ⟨hHeld.1, hzg5, hsg5⟩)
      · skip
        refine value_ (w1 := ?_) (v := ?_) (by rfl) rfl ?_ ?_
        rotate_left 2
        · go_simp
          constructor
          · rfl
          · rfl
        have hzg5 : NAt (World.alloc u11 (.cells (nw 0).toArray 24)) (u11.heap.size) 0 := by have h_ := Row.new u11 24 (nw 0); first | exact h_ | (simp only [alloc_sz] at h_; exact h_) | omega
        have hsg5 : u10.heap.size ≤ u11.heap.size := by have h_ := hHeld.1.size; first | exact h_ | (simp only [alloc_sz] at h_; exact h_) | omega
        refine hK.out _ _ ⟨below_alloc hHeld.1 _, (HC.out.on (below_alloc hHeld.1 _)).c1, (HC.out.on (below_alloc hHeld.1 _)).c2, (HC.out.on (below_alloc hHeld.1 _)).c3⟩ (fun hHeld => ?_)
        clear hK K
        refine nm_ (some 5) ?_
        refine on1_ 12 (some 35) (bs 22 1114111) rfl fun K hK => ?_
        refine gF_ Try.func53 gf (numV t1) (numV x) rfl ?_
        with_reducible refine (K5.out _ (HF.out.on hHeld.1)).mono ?_
        rintro e u12 ⟨rfl, hb_u12⟩
        refine ⟨_, rfl, ?_⟩
        have hq_u12 := bl_on hHeld.1 hb_u12 hHeld.1.size
        replace hzg5 := hzg5.on hb_u12
        refine hK.out _ _ ⟨hq_u12, (HC.out.on (hq_u12)).c1, (HC.out.on (hq_u12)).c2, (HC.out.on (hq_u12)).c3⟩ (fun hHeld => ?_)
        clear hK K
        refine nm_ (some 35) ?_
        refine on1_ 16 (some 39) (bs 22 1179647) rfl fun K hK => ?_
        refine gs_ Try.func56 #[cvV gf, numV x, .int .u64 ((3 : Nat) : Int)] rfl ?_
        with_reducible refine (K6.out _ (HF.out.on hHeld.1)).mono ?_
        rintro e u13 ⟨rfl, hb_u13⟩
        refine ⟨_, rfl, ?_⟩
        have hq_u13 := bl_on hHeld.1 hb_u13 hHeld.1.size
        replace hzg5 := hzg5.on hb_u13
        refine hK.out _ _ ⟨hq_u13, (HC.out.on (hq_u13)).c1, (HC.out.on (hq_u13)).c2, (HC.out.on (hq_u13)).c3⟩ (fun hHeld => ?_)
        clear hK K
        refine nm_ (some 39) ?_
        refine on1_ 17 (some 40) (bs 22 1310719) rfl fun K hK => ?_
        refine gF_ Try.func52 gf (numV t2) (numV t3) rfl ?_
        with_reducible refine (K7.out _ (HF.out.on hHeld.1)).mono ?_
        rintro e u14 ⟨rfl, hb_u14⟩
        refine ⟨_, rfl, ?_⟩
        have hq_u14 := bl_on hHeld.1 hb_u14 hHeld.1.size
        replace hzg5 := hzg5.on hb_u14
        refine hK.out _ _ ⟨hq_u14, (HC.out.on (hq_u14)).c1, (HC.out.on (hq_u14)).c2, (HC.out.on (hq_u14)).c3⟩ (fun hHeld => ?_)
        clear hK K
        refine nm_ (some 40) ?_
        refine on1_ 18 (some 41) (bs 22 1572863) rfl fun K hK => ?_
        refine goes_ Try.func57 (by kernel_rfl) rfl #[] (by rfl) rfl rfl (by first | rfl | simp only [List.map_toArray, List.map_cons, List.map_nil]) ?_
        with_reducible refine (K8.out _).mono ?_
        rintro e u15 ⟨rfl, hb_u15⟩
        refine ⟨_, rfl, ?_⟩
        have hq_u15 := bl_on hHeld.1 hb_u15 hHeld.1.size
        replace hzg5 := hzg5.on hb_u15
        refine hK.out _ _ ⟨hq_u15, (HC.out.on (hq_u15)).c1, (HC.out.on (hq_u15)).c2, (HC.out.on (hq_u15)).c3⟩ (fun hHeld => ?_)
        clear hK K
        refine nm_ (some 41) ?_
        refine on1_ 19 (some 42) (bs 22 2097151) rfl fun K hK => ?_
        refine gF_ Try.func51 gf (numV t4) (numV cB) rfl ?_
        with_reducible refine (K9.out _ (HF.out.on hHeld.1)).mono ?_
        rintro e u16 ⟨rfl, hb_u16⟩
        refine ⟨_, rfl, ?_⟩
        have hq_u16 := bl_on hHeld.1 hb_u16 hHeld.1.size
        replace hzg5 := hzg5.on hb_u16
        refine hK.out _ _ ⟨hq_u16, (HC.out.on (hq_u16)).c1, (HC.out.on (hq_u16)).c2, (HC.out.on (hq_u16)).c3⟩ (fun hHeld => ?_)
        clear hK K
        refine nm_ (some 42) ?_
        exact norm_ (by simp only [putAll, aS]) (hCont (u11.heap.size) _ ⟨hHeld.1, hzg5, hsg5⟩)
    · skip
      refine value_ (w1 := ?_) (v := ?_) (by rfl) rfl ?_ ?_
      rotate_left 2
      · go_simp
        constructor
        · rfl
        · rfl
      have hzg5 : NAt (World.alloc (World.drew u10) (.cells (nw 0).toArray 24)) (u10.heap.size) 0 := by have h_ := Row.new (World.drew u10) 24 (nw 0); first | exact h_ | (simp only [alloc_sz] at h_; exact h_) | omega
      have hsg5 : u10.heap.size ≤ u10.heap.size := by have h_ := hHeld.1.size; first | exact h_ | (simp only [alloc_sz] at h_; exact h_) | omega
      refine hK.out _ _ ⟨below_alloc hHeld.1 _, (HC.out.on (below_alloc hHeld.1 _)).c1, (HC.out.on (below_alloc hHeld.1 _)).c2, (HC.out.on (below_alloc hHeld.1 _)).c3⟩ (fun hHeld => ?_)
      clear hK K
      refine nm_ (some 5) ?_
      refine on1_ 9 (some 32) (bs 22 1110015) rfl fun K hK => ?_
      refine gs_ Try.func55 #[cvV gf, numV x] rfl ?_
      with_reducible refine (K4.out _ (HF.out.on hHeld.1)).mono ?_
      rintro e u11 ⟨rfl, hb_u11⟩
      refine ⟨_, rfl, ?_⟩
      have hq_u11 := bl_on hHeld.1 hb_u11 hHeld.1.size
      replace hzg5 := hzg5.on hb_u11
      refine hK.out _ _ ⟨hq_u11, (HC.out.on (hq_u11)).c1, (HC.out.on (hq_u11)).c2, (HC.out.on (hq_u11)).c3⟩ (fun hHeld => ?_)
      clear hK K
      refine nm_ (some 32) ?_
      refine on1_ 12 (some 35) (bs 22 1114111) rfl fun K hK => ?_
      refine gF_ Try.func53 gf (numV t1) (numV x) rfl ?_
      with_reducible refine (K5.out _ (HF.out.on hHeld.1)).mono ?_
      rintro e u12 ⟨rfl, hb_u12⟩
      refine ⟨_, rfl, ?_⟩
      have hq_u12 := bl_on hHeld.1 hb_u12 hHeld.1.size
      replace hzg5 := hzg5.on hb_u12
      refine hK.out _ _ ⟨hq_u12, (HC.out.on (hq_u12)).c1, (HC.out.on (hq_u12)).c2, (HC.out.on (hq_u12)).c3⟩ (fun hHeld => ?_)
      clear hK K
      refine nm_ (some 35) ?_
      refine on1_ 16 (some 39) (bs 22 1179647) rfl fun K hK => ?_
      refine gs_ Try.func56 #[cvV gf, numV x, .int .u64 ((3 : Nat) : Int)] rfl ?_
      with_reducible refine (K6.out _ (HF.out.on hHeld.1)).mono ?_
      rintro e u13 ⟨rfl, hb_u13⟩
      refine ⟨_, rfl, ?_⟩
      have hq_u13 := bl_on hHeld.1 hb_u13 hHeld.1.size
      replace hzg5 := hzg5.on hb_u13
      refine hK.out _ _ ⟨hq_u13, (HC.out.on (hq_u13)).c1, (HC.out.on (hq_u13)).c2, (HC.out.on (hq_u13)).c3⟩ (fun hHeld => ?_)
      clear hK K
      refine nm_ (some 39) ?_
      refine on1_ 17 (some 40) (bs 22 1310719) rfl fun K hK => ?_
      refine gF_ Try.func52 gf (numV t2) (numV t3) rfl ?_
      with_reducible refine (K7.out _ (HF.out.on hHeld.1)).mono ?_
      rintro e u14 ⟨rfl, hb_u14⟩
      refine ⟨_, rfl, ?_⟩
      have hq_u14 := bl_on hHeld.1 hb_u14 hHeld.1.size
      replace hzg5 := hzg5.on hb_u14
      refine hK.out _ _ ⟨hq_u14, (HC.out.on (hq_u14)).c1, (HC.out.on (hq_u14)).c2, (HC.out.on (hq_u14)).c3⟩ (fun hHeld => ?_)
      clear hK K
      refine nm_ (some 40) ?_
      refine on1_ 18 (some 41) (bs 22 1572863) rfl fun K hK => ?_
      refine goes_ Try.func57 (by kernel_rfl) rfl #[] (by rfl) rfl rfl (by first | rfl | simp only [List.map_toArray, List.map_cons, List.map_nil]) ?_
      with_reducible refine (K8.out _).mono ?_
      rintro e u15 ⟨rfl, hb_u15⟩
      refine ⟨_, rfl, ?_⟩
      have hq_u15 := bl_on hHeld.1 hb_u15 hHeld.1.size
      replace hzg5 := hzg5.on hb_u15
      refine hK.out _ _ ⟨hq_u15, (HC.out.on (hq_u15)).c1, (HC.out.on (hq_u15)).c2, (HC.out.on (hq_u15)).c3⟩ (fun hHeld => ?_)
      clear hK K
      refine nm_ (some 41) ?_
      refine on1_ 19 (some 42) (bs 22 2097151) rfl fun K hK => ?_
      refine gF_ Try.func51 gf (numV t4) (numV cB) rfl ?_
      with_reducible refine (K9.out _ (HF.out.on hHeld.1)).mono ?_
      rintro e u16 ⟨rfl, hb_u16⟩
      refine ⟨_, rfl, ?_⟩
      have hq_u16 := bl_on hHeld.1 hb_u16 hHeld.1.size
      replace hzg5 := hzg5.on hb_u16
      refine hK.out _ _ ⟨hq_u16, (HC.out.on (hq_u16)).c1, (HC.out.on (hq_u16)).c2, (HC.out.on (hq_u16)).c3⟩ (fun hHeld => ?_)
      clear hK K
      refine nm_ (some 42) ?_
      exact norm_ (by simp only [putAll, aS]) (hCont (u10.heap.size) _ ⟨hHeld.1, hzg5, hsg5⟩)
  rintro g5 v17 ⟨hHeld0, hzg5, hsg5⟩
  have hHeld : Below u10.heap.size u10 v17 ∧ v17.cell? ⟨w.heap.size, 1, none⟩ = some (mthV 51 gf) ∧ v17.cell? ⟨w.heap.size, 2, none⟩ = some (mthV 52 gf) ∧ v17.cell? ⟨w.heap.size, 3, none⟩ = some (mthV 53 gf) := ⟨hHeld0, (HC.out.on (hHeld0)).c1, (HC.out.on (hHeld0)).c2, (HC.out.on (hHeld0)).c3⟩
  clear hHeld0
  refine norm_ (a' := ?_) ?_ ?_
  rotate_left
  · simp only [putAll, aS]
    rfl
  refine last_ (i := 21) (N := none) (bs 22 4194303) rfl rfl (by kernel_rfl) (by decide) (fun K hK => ?_)
  refine skip_num (hzg5) (by rfl) rfl (.tmp 5) (.tmp 42) rfl rfl rfl ?_
  intro q18 hA_q18 hT_q18
  refine hK.out _ _ ?_
  clear hK K
  refine done_ (by kernel_rfl) ?_
  have HXg5 : Aside0 (w.heap.size + 1 + 1 ≤ g5) := Aside0.mk (Nat.le_trans HS.out hsg5)
  replace HC := Aside0.mk (HC.out.on hHeld.1)
  replace HA := Aside0.mk (HA.out.on hHeld.1)
  replace HF := Aside0.mk (HF.out.on hHeld.1)
  replace HB := Aside0.mk (bl_on HB.out hHeld.1 HB.out.size)
  replace HS := Aside0.mk (Nat.le_trans HS.out hHeld.1.size)
  replace HC := Aside0.mk (HC.out.but hT_q18 (by have := HXg5.out; have := HG.out; omega))
  replace HA := Aside0.mk (HA.out.but hT_q18 (by have := HXg5.out; have := HG.out; omega))
  replace HF := Aside0.mk (HF.out.but hT_q18 (by have := HXg5.out; have := HG.out; omega))
  have Hg5 := Aside0.mk hA_q18
  replace HB := Aside0.mk (bl_but HB.out hT_q18 HB.out.size (by have := HXg5.out; have := HG.out; omega))
  replace HS := Aside0.mk (Nat.le_trans HS.out hT_q18.size)
  clear hA_q18 hT_q18 hzg5 hsg5 hHeld
  go_wp2
  refine start_ (n := 7) (S := fun w' => Below q18.heap.size q18 w') (ds := []) (bs 7 0) (by kernel_rfl) rfl rfl ((Below.refl _ _).drew) (fun hHeld => ?_)
  refine pu_ 1 44 (bs 7 2) ?_ ?_ ?_ ?_ ?_
  rotate_left
  · intro w'
    go_simp
    with_reducible rfl
  rotate_left
  · simp only [aS, i64_w, i32_w]
    rfl
  refine take_ (i := 0) (N := some 43) (a' := ?_) (bs 7 3) rfl rfl (by kernel_rfl) (fun _ _ _ h => h) (yieldsIf_load_mid (by rfl) 58 (.tmp 2) rfl w.heap.size 0 rfl ((cvl gf)) _ (fun w' hS => (HC.out.on hS).range) rfl rfl (rfl)) hHeld ?_ ?_
  rotate_left
  · simp only [aS, i64_w, i32_w]
    rfl
  refine take_ (i := 2) (N := some 45) (a' := ?_) (bs 7 7) rfl rfl (by kernel_rfl) (fun _ _ _ h => h) (yields_num (g := w.heap.size + 1) (o := 4) (n := y) (by rfl) (.tmp 44) rfl rfl (fun w' hS => (HA.out.on hS).ry)) hHeld ?_ ?_
  rotate_left
  · simp only [aS, i64_w, i32_w]
    rfl
  refine take_ (i := 4) (N := some 47) (a' := ?_) (bs 7 23) rfl rfl (by kernel_rfl) (fun _ _ _ h => h) (yields_num (g := g5) (o := 0) (n := t5) (by rfl) (.tmp 5) rfl rfl (fun w' hS => (Hg5.out.on hS).range)) hHeld ?_ ?_
  rotate_left
  · simp only [aS, i64_w, i32_w]
    rfl
  refine on1_ 3 (some 46) (bs 7 31) rfl fun K hK => ?_
  refine gs_ Try.func55 #[cvV gf, numV y] rfl ?_
  with_reducible refine (K10.out _ (HF.out.on hHeld)).mono ?_
  rintro e u19 ⟨rfl, hb_u19⟩
  refine ⟨_, rfl, ?_⟩
  have hq_u19 := bl_on hHeld hb_u19 hHeld.size
  refine hK.out _ _ (hq_u19) (fun hHeld => ?_)
  clear hK K
  refine nm_ (some 46) ?_
  refine pu_ 5 48 (bs 7 63) ?_ ?_ ?_ ?_ ?_
  rotate_left
  · intro w'
    go_simp
    with_reducible rfl
  rotate_left
  · simp only [aS, i64_w, i32_w]
    rfl
  refine pu_ 6 4 (bs 7 127) ?_ ?_ ?_ ?_ ?_
  rotate_left
  · intro w'
    go_simp
    with_reducible rfl
  rotate_left
  · simp only [aS, i64_w, i32_w]
    rfl
  refine done_ (by kernel_rfl) ?_
  replace HC := Aside0.mk (HC.out.on hHeld)
  replace HA := Aside0.mk (HA.out.on hHeld)
  replace Hg5 := Aside0.mk (Hg5.out.on hHeld)
  replace HF := Aside0.mk (HF.out.on hHeld)
  replace HB := Aside0.mk (bl_on HB.out hHeld HB.out.size)
  replace HS := Aside0.mk (Nat.le_trans HS.out hHeld.size)
  clear hb_u19 hHeld
  go_wp2
  go_ret
  exact ⟨rfl, HB.out⟩
theorem pon_calls {gf x y : Nat} (hx : x < N256) (hy : y < N256) (f : Bool) (w : World) (hF : CFld w gf) :
    Calls Try.prog 30 #[cvV gf, ptV x y f] w fun e w' => e = .returned (.bool (onB x y f)) ∧ Below w.heap.size w w' := by
  cases f
  · by_cases nx : x < pP
    · by_cases ny : y < pP
      · exact pon_ok nx ny w hF
      · exact pon_y nx hy ny w hF
    · exact pon_x hx nx w hF
  · exact pon_far hx hy w hF
end Go.Proofs.Ytkfjhndofbmhoaa
