/- What the proof of PointSums is made of, part 34. -/
import Derived.Test.YtkfjhndofbmhoaaZPointSums33
import Derived.Test.YtkfjhndofbmhoaaZPointSums2
import Derived.Test.YtkfjhndofbmhoaaZPointSumsh
namespace Go.Proofs.Ytkfjhndofbmhoaa
open EC Go.RowKit Go.Proofs.Ytkfjhndofbmhoaa.Arr Go.Proofs.YtkfjhndofbmhoaaW.PrintWords Go.Proofs.YtkfjhndofbmhoaaW.PrintLast Go.Proofs.YtkfjhndofbmhoaaW.PrintMore
attribute [local go_sem high] eqg_num eqg_num0 eqg_pt
set_option linter.unusedVariables false
set_option linter.unusedSimpArgs false
theorem neq_codeS (a b : Int) (w : World) : (binOp .neq 30 (.iface 38 (.int .i64 a)) (.iface 38 (.int .i64 b))).run Try.prog w = .ok (.bool (!(a == b))) w := by
 have hu : Try.prog.underlying 30 = some (.interface ((match Try.prog.underlying 30 with | some (.interface ms) => ms | _ => #[]))) := by kernel_rfl
 have hn : Try.prog.underlying 38 = some (.int .i64) := by kernel_rfl
 obtain ⟨i, hi, hc⟩ : ∃ i, Try.prog.info? 38 = some i ∧ i.comparable = true := by
  have h : (Try.prog.info? 38).map (·.comparable) = some true := by kernel_rfl
  cases hq : Try.prog.info? 38 with
  | none => rw [hq] at h; simp at h
  | some i => rw [hq] at h; exact ⟨i, rfl, by simpa using h⟩
 simp only [binOp]
 simp [Op.equal, Op.maxDepth, run_equalIn_iface_int w 9998 a b hu hn hi hc]
attribute [local go_sem high] eql_code neq_codeS
theorem num_inj {a b : Nat} (h : nw a = nw b) (ha : a < N256) (hb : b < N256) : a = b := by
 have h2 : numV a = numV b := by rw [numV_nw, numV_nw, h]
 rw [numV_def, numV_def] at h2
 injection h2 with h2
 have h3 := congrArg Array.toList h2
 injection h3 with q0 h3
 injection h3 with q1 h3
 injection h3 with q2 h3
 injection h3 with q3 h3
 injection q0 with _ q0
 injection q1 with _ q1
 injection q2 with _ q2
 injection q3 with _ q3
 rw [← val_wd ha, ← val_wd hb, Int.ofNat.inj q0, Int.ofNat.inj q1, Int.ofNat.inj q2, Int.ofNat.inj q3]
theorem pt_inj {x y x' y' : Nat} {f f' : Bool} (h : ptV x y f = ptV x' y' f') (hx : x < N256) (hy : y < N256) (hx' : x' < N256) (hy' : y' < N256) : x = x' ∧ y = y' ∧ f = f' := by
 unfold ptV at h
 injection h with h
 have h1 : pw x y f = pw x' y' f' := congrArg Array.toList h
 unfold pw at h1
 obtain ⟨h2, h3⟩ := List.append_inj h1 rfl
 obtain ⟨h4, h5⟩ := List.append_inj h3 rfl
 injection h5 with h5 _
 injection h5 with h5
 exact ⟨num_inj h2 hx hx', num_inj h4 hy hy', h5⟩
set_option maxRecDepth 100000 in
set_option maxHeartbeats 8000000 in
theorem psm_true_true {P Q : Pt pP} (hP : On cb P) (hQ : On cb Q) (w : World) :
  Calls Try.prog 4 #[vP P, vP Q] w fun e w' => e = .returned (.bool true) ∧ Below w.heap.size w w' := by
 obtain ⟨xa, ya, fa, ea, na, ma⟩ := vP_form (P)
 obtain ⟨xb, yb, fb, eb, nb, mb⟩ := vP_form (Q)
 obtain ⟨xs, ys, fs, es, ns, ms⟩ := vP_form (add P Q)
 obtain ⟨xm, ym, fm, em, nm, mm⟩ := vP_form (neg P)
 have ha : onB xa ya fa = true := by have h := on_back hP; obtain ⟨h1, h2, h3⟩ := pt_inj (ea : ptV _ _ _ = _) (vN P).1 (vN P).2 na ma; rw [h1, h2, h3] at h; exact h
 have hb : onB xb yb fb = true := by have h := on_back hQ; obtain ⟨h1, h2, h3⟩ := pt_inj (eb : ptV _ _ _ = _) (vN Q).1 (vN Q).2 nb mb; rw [h1, h2, h3] at h; exact h
 have KU := Aside0.mk (fun (u : World) => up_calls u)
 have Ra := fun (u : World) => rOn_calls na ma fa u
 rw [ha] at Ra
 replace Ra := Aside0.mk Ra
 have Rb := fun (u : World) => rOn_calls nb mb fb u
 rw [hb] at Rb
 replace Rb := Aside0.mk Rb
 have Oa := fun (u : World) => pOn_calls na ma fa u
 rw [ha] at Oa
 replace Oa := Aside0.mk Oa
 have Ob := fun (u : World) => pOn_calls nb mb fb u
 rw [hb] at Ob
 replace Ob := Aside0.mk Ob
 have KA : Aside0 (∀ u, Calls Try.prog 11 #[ptV xa ya fa, ptV xb yb fb] u fun e w' => e = .returned (.tuple #[ptV xs ys fs, .nilIface]) ∧ Below u.heap.size u w') := Aside0.mk (fun u => by
  have h := gAdd hP hQ u
  rw [ea, eb, es] at h
  exact h)
 have RA : Aside0 (∀ u, Calls Try.prog 21 #[ptV xa ya fa, ptV xb yb fb] u fun e w' => e = .returned (ptV xs ys fs) ∧ Below u.heap.size u w') := Aside0.mk (fun u => by
  have h := rgAdd hP hQ u
  rw [ea, eb, es] at h
  exact h)
 have KN : Aside0 (∀ u, Calls Try.prog 12 #[ptV xa ya fa] u fun e w' => e = .returned (.tuple #[ptV xm ym fm, .nilIface]) ∧ Below u.heap.size u w') := Aside0.mk (fun u => by
  have h := gNeg hP u
  rw [ea, em] at h
  exact h)
 have RN : Aside0 (∀ u, Calls Try.prog 20 #[ptV xa ya fa] u fun e w' => e = .returned (ptV xm ym fm) ∧ Below u.heap.size u w') := Aside0.mk (fun u => by
  have h := rgNeg (P := P) u
  rw [ea, em] at h
  exact h)
 have q1 : ∀ w, (binOp .neq 26 (.agg (pw xm ym fm).toArray) (ptV xm ym fm)).run Try.prog w = .ok (.bool false) w := fun w => by
  have h := neq_pt nm mm nm mm fm fm w
  rw [decide_eq_true ⟨rfl, rfl, rfl⟩] at h
  exact h
 have gq1 : ∀ w x_ y_, (eqGuard .neq 26 x_ y_ (.agg (pw xm ym fm).toArray) (ptV xm ym fm)).run Try.prog w = .ok () w := fun w x_ y_ => eqg_pt .neq x_ y_ xm ym xm ym fm fm w
 have q2 : ∀ w, (binOp .eql 26 (.agg (pw xs ys fs).toArray) (ptV xs ys fs)).run Try.prog w = .ok (.bool true) w := fun w => by
  have h := eql_pt ns ms ns ms fs fs w
  rw [decide_eq_true ⟨rfl, rfl, rfl⟩] at h
  exact h
 have gq2 : ∀ w x_ y_, (eqGuard .eql 26 x_ y_ (.agg (pw xs ys fs).toArray) (ptV xs ys fs)).run Try.prog w = .ok () w := fun w x_ y_ => eqg_pt .eql x_ y_ xs ys xs ys fs fs w
 have qp : ∀ w, (binOp .neq 24 (numV pP) (numV pP)).run Try.prog w = .ok (.bool false) w := fun w => by
  have h := neq_num pP_lt pP_lt w
  rw [decide_eq_true rfl] at h
  exact h
 have qn : ∀ w, (binOp .neq 24 (numV nN) (numV nN)).run Try.prog w = .ok (.bool false) w := fun w => by
  have h := neq_num nN_lt nN_lt w
  rw [decide_eq_true rfl] at h
  exact h
 have qg : ∀ w, (binOp .neq 26 (ptV gX gY false) (ptV gX gY false)).run Try.prog w = .ok (.bool false) w := fun w => by
  have h := neq_pt gX_N gY_N gX_N gY_N false false w
  rw [decide_eq_true ⟨rfl, rfl, rfl⟩] at h
  exact h
 have gqg : ∀ w x_ y_, (eqGuard .neq 26 x_ y_ (ptV gX gY false) (ptV gX gY false)).run Try.prog w = .ok () w := fun w x_ y_ => eqg_pt .neq x_ y_ gX gY gX gY false false w
 rw [ea, eb]
 have K1 := Aside0.mk (fun (u : World) => cp_calls u)
 have K2 := Aside0.mk (fun (u : World) => rcp_calls u)
 have K3 := Aside0.mk (fun (u : World) => cn_calls u)
 have K4 := Aside0.mk (fun (u : World) => rcn_calls u)
 have K5 := Aside0.mk (fun (u : World) => pbase_calls u)
 have K6 := Aside0.mk (fun (u : World) => rbase_calls u)
 clear na ma nb mb ha hb ea eb es em hP hQ ns ms nm mm
 go_enter Try.func4, Try.ntmps4
 go_upto_region 1 with (fail)
 refine wp_at (w2 := (World.alloc (World.alloc w (.cells (pw xa ya fa).toArray 26)) (.cells (pw xb yb fb).toArray 26))) rfl ?_
 obtain ⟨x_0, e_0, h_0, b_0, s_0⟩ := new_PtAt w xa ya fa
 obtain ⟨x_1, e_1, h_1, b_1, s_1⟩ := new_PtAt x_0 xb yb fb
 rw [e_0, e_1]
 rw [s_0] at h_1 s_1
 have HB : Aside0 (Below w.heap.size w x_1) := Aside0.mk (bl_both b_0 b_1)
 have HA : Aside0 (PtAt x_1 (w.heap.size) xa ya fa) := Aside0.mk (h_0.on b_1)
 have HC2 : Aside0 (PtAt x_1 (w.heap.size + 1) xb yb fb) := Aside0.mk h_1
 have HS : Aside0 (w.heap.size + 1 + 1 ≤ x_1.heap.size) := Aside0.mk (Nat.le_of_eq s_1.symm)
 clear e_0 h_0 b_0 s_0 e_1 h_1 b_1 s_1
 obtain ⟨w1, hw_⟩ : ∃ x, x = x_1 := ⟨_, rfl⟩
 subst hw_
 clear x_0
 go_upto_region 2 with (first | ((with_reducible refine gate_dst (N := 12) rfl ?_); refine goesL_ (some 12) rfl rfl Try.func9 (by kernel_rfl) rfl #[] rfl (by (try simp only [List.map_toArray, List.map_cons, List.map_nil]); first | done | rfl) ?_; (with_reducible refine (KU.out _).mono ?_); rintro e u12 ⟨rfl, hb_⟩; refine ⟨_, rfl, ?_⟩; replace HA := Aside0.mk (HA.out.on hb_); replace HC2 := Aside0.mk (HC2.out.on hb_); replace HB := Aside0.mk (bl_on HB.out hb_ HB.out.size); replace HS := Aside0.mk (Nat.le_trans HS.out hb_.size); clear hb_))
 go_upto_region 3 with (first | ((with_reducible refine gate_dst (N := 13) rfl ?_); refine ld_pt HA.out rfl _ rfl rfl ?_) | ((with_reducible refine gate_dst (N := 14) rfl ?_); refine goesL_ (some 14) rfl rfl Try.func13 (by kernel_rfl) rfl #[ptV xa ya fa] rfl (by (try simp only [List.map_toArray, List.map_cons, List.map_nil]); first | done | rfl) ?_; (with_reducible refine (Ra.out _).mono ?_); rintro e u13 ⟨rfl, hb_⟩; refine ⟨_, rfl, ?_⟩; replace HA := Aside0.mk (HA.out.on hb_); replace HC2 := Aside0.mk (HC2.out.on hb_); replace HB := Aside0.mk (bl_on HB.out hb_ HB.out.size); replace HS := Aside0.mk (Nat.le_trans HS.out hb_.size); clear hb_))
 go_upto_region 4 with (first | ((with_reducible refine gate_dst (N := 15) rfl ?_); refine ld_pt HC2.out rfl _ rfl rfl ?_) | ((with_reducible refine gate_dst (N := 16) rfl ?_); refine goesL_ (some 16) rfl rfl Try.func13 (by kernel_rfl) rfl #[ptV xb yb fb] rfl (by (try simp only [List.map_toArray, List.map_cons, List.map_nil]); first | done | rfl) ?_; (with_reducible refine (Rb.out _).mono ?_); rintro e u14 ⟨rfl, hb_⟩; refine ⟨_, rfl, ?_⟩; replace HA := Aside0.mk (HA.out.on hb_); replace HC2 := Aside0.mk (HC2.out.on hb_); replace HB := Aside0.mk (bl_on HB.out hb_ HB.out.size); replace HS := Aside0.mk (Nat.le_trans HS.out hb_.size); clear hb_))
 go_upto_region 5 with (first | ((with_reducible refine gate_dst (N := 18) rfl ?_); refine ld_pt HA.out rfl _ rfl rfl ?_) | ((with_reducible refine gate_dst (N := 19) rfl ?_); refine ld_pt HC2.out rfl _ rfl rfl ?_) | ((with_reducible refine gate_dst (N := 20) rfl ?_); refine goesL_ (some 20) rfl rfl Try.func11 (by kernel_rfl) rfl #[ptV xa ya fa, ptV xb yb fb] rfl (by (try simp only [List.map_toArray, List.map_cons, List.map_nil]); first | done | rfl) ?_; (with_reducible refine (KA.out _).mono ?_); rintro e u15 ⟨rfl, hb_⟩; refine ⟨_, rfl, ?_⟩; replace HA := Aside0.mk (HA.out.on hb_); replace HC2 := Aside0.mk (HC2.out.on hb_); replace HB := Aside0.mk (bl_on HB.out hb_ HB.out.size); replace HS := Aside0.mk (Nat.le_trans HS.out hb_.size); clear hb_) | ((with_reducible refine gate_dst (N := 8) rfl ?_); refine al_pt rfl _ rfl rfl ?_; intro g8 u16 eg_ hn_ hb_; have HXg8 : Aside0 (w.heap.size + 1 + 1 ≤ g8) := Aside0.mk (by rw [eg_]; exact HS.out); replace HA := Aside0.mk (HA.out.on hb_); replace HC2 := Aside0.mk (HC2.out.on hb_); replace HB := Aside0.mk (bl_on HB.out hb_ HB.out.size); replace HS := Aside0.mk (Nat.le_trans HS.out hb_.size); have Hg8 := Aside0.mk hn_; clear hn_ hb_ eg_) | ((with_reducible refine gate_st (y := .tmp 21) rfl ?_); (try simp only [aS]); refine st_pt (x := xs) (y := ys) (f := fs) Hg8.out rfl _ _ rfl rfl rfl ?_; intro u17 hn_ hb_; replace HA := Aside0.mk (HA.out.but hb_ (by have := HXg8.out; omega)); replace HC2 := Aside0.mk (HC2.out.but hb_ (by have := HXg8.out; omega)); replace Hg8 := Aside0.mk hn_; replace HB := Aside0.mk (bl_but HB.out hb_ HB.out.size (by have := HXg8.out; omega)); replace HS := Aside0.mk (Nat.le_trans HS.out hb_.size); clear hn_ hb_))
 go_upto_region 6 with (first | ((with_reducible refine gate_dst (N := 24) rfl ?_); refine ld_pt HA.out rfl _ rfl rfl ?_) | ((with_reducible refine gate_dst (N := 25) rfl ?_); refine goesL_ (some 25) rfl rfl Try.func12 (by kernel_rfl) rfl #[ptV xa ya fa] rfl (by (try simp only [List.map_toArray, List.map_cons, List.map_nil]); first | done | rfl) ?_; (with_reducible refine (KN.out _).mono ?_); rintro e u18 ⟨rfl, hb_⟩; refine ⟨_, rfl, ?_⟩; replace HA := Aside0.mk (HA.out.on hb_); replace HC2 := Aside0.mk (HC2.out.on hb_); replace Hg8 := Aside0.mk (Hg8.out.on hb_); replace HB := Aside0.mk (bl_on HB.out hb_ HB.out.size); replace HS := Aside0.mk (Nat.le_trans HS.out hb_.size); clear hb_) | ((with_reducible refine gate_dst (N := 10) rfl ?_); refine al_pt rfl _ rfl rfl ?_; intro g10 u19 eg_ hn_ hb_; have HXg10 : Aside0 (w.heap.size + 1 + 1 ≤ g10 ∧ g8 < g10) := Aside0.mk (by rw [eg_]; exact ⟨HS.out, Hg8.out.size⟩); replace HA := Aside0.mk (HA.out.on hb_); replace HC2 := Aside0.mk (HC2.out.on hb_); replace Hg8 := Aside0.mk (Hg8.out.on hb_); replace HB := Aside0.mk (bl_on HB.out hb_ HB.out.size); replace HS := Aside0.mk (Nat.le_trans HS.out hb_.size); have Hg10 := Aside0.mk hn_; clear hn_ hb_ eg_) | ((with_reducible refine gate_st (y := .tmp 26) rfl ?_); (try simp only [aS]); refine st_pt (x := xm) (y := ym) (f := fm) Hg10.out rfl _ _ rfl rfl rfl ?_; intro u20 hn_ hb_; replace HA := Aside0.mk (HA.out.but hb_ (by have := HXg8.out; have := HXg10.out; omega)); replace HC2 := Aside0.mk (HC2.out.but hb_ (by have := HXg8.out; have := HXg10.out; omega)); replace Hg8 := Aside0.mk (Hg8.out.but hb_ (by have := HXg8.out; have := HXg10.out; omega)); replace Hg10 := Aside0.mk hn_; replace HB := Aside0.mk (bl_but HB.out hb_ HB.out.size (by have := HXg8.out; have := HXg10.out; omega)); replace HS := Aside0.mk (Nat.le_trans HS.out hb_.size); clear hn_ hb_))
 go_upto_region 8 with (first | ((with_reducible refine gate_dst (N := 28) rfl ?_); refine ld_pt HA.out rfl _ rfl rfl ?_) | ((with_reducible refine gate_dst (N := 29) rfl ?_); refine goesL_ (some 29) rfl rfl Try.func10 (by kernel_rfl) rfl #[ptV xa ya fa] rfl (by (try simp only [List.map_toArray, List.map_cons, List.map_nil]); first | done | rfl) ?_; (with_reducible refine (Oa.out _).mono ?_); rintro e u21 ⟨rfl, hb_⟩; refine ⟨_, rfl, ?_⟩; replace HA := Aside0.mk (HA.out.on hb_); replace HC2 := Aside0.mk (HC2.out.on hb_); replace Hg8 := Aside0.mk (Hg8.out.on hb_); replace Hg10 := Aside0.mk (Hg10.out.on hb_); replace HB := Aside0.mk (bl_on HB.out hb_ HB.out.size); replace HS := Aside0.mk (Nat.le_trans HS.out hb_.size); clear hb_) | ((with_reducible refine gate_dst (N := 33) rfl ?_); refine ld_ptG HC2.out (by rfl) _ rfl rfl ?_) | ((with_reducible refine gate_dst (N := 34) rfl ?_); refine wpList_step (fun K_ hK_ => ?_); refine goes_ Try.func10 (by kernel_rfl) rfl #[ptV xb yb fb] (by rfl) rfl rfl (by (try simp only [List.map_toArray, List.map_cons, List.map_nil]); first | done | rfl) ?_; (with_reducible refine (Ob.out _).mono ?_); rintro e u22 ⟨rfl, hb_⟩; refine ⟨_, rfl, ?_⟩; refine hK_ _ _ ?_; clear hK_ K_; replace HA := Aside0.mk (HA.out.on hb_); replace HC2 := Aside0.mk (HC2.out.on hb_); replace Hg8 := Aside0.mk (Hg8.out.on hb_); replace Hg10 := Aside0.mk (Hg10.out.on hb_); replace HB := Aside0.mk (bl_on HB.out hb_ HB.out.size); replace HS := Aside0.mk (Nat.le_trans HS.out hb_.size); clear hb_) | ((with_reducible refine gate_dst (N := 39) rfl ?_); refine wpList_step (fun K_ hK_ => ?_); refine goes_ Try.func14 (by kernel_rfl) rfl #[] (by rfl) rfl rfl (by (try simp only [List.map_toArray, List.map_cons, List.map_nil]); first | done | rfl) ?_; (with_reducible refine (K1.out _).mono ?_); rintro e u23 ⟨rfl, hb_⟩; refine ⟨_, rfl, ?_⟩; refine hK_ _ _ ?_; clear hK_ K_; replace HA := Aside0.mk (HA.out.on hb_); replace HC2 := Aside0.mk (HC2.out.on hb_); replace Hg8 := Aside0.mk (Hg8.out.on hb_); replace Hg10 := Aside0.mk (Hg10.out.on hb_); replace HB := Aside0.mk (bl_on HB.out hb_ HB.out.size); replace HS := Aside0.mk (Nat.le_trans HS.out hb_.size); clear hb_) | ((with_reducible refine gate_dst (N := 40) rfl ?_); refine wpList_step (fun K_ hK_ => ?_); refine goes_ Try.func15 (by kernel_rfl) rfl #[] (by rfl) rfl rfl (by (try simp only [List.map_toArray, List.map_cons, List.map_nil]); first | done | rfl) ?_; (with_reducible refine (K2.out _).mono ?_); rintro e u24 ⟨rfl, hb_⟩; refine ⟨_, rfl, ?_⟩; refine hK_ _ _ ?_; clear hK_ K_; replace HA := Aside0.mk (HA.out.on hb_); replace HC2 := Aside0.mk (HC2.out.on hb_); replace Hg8 := Aside0.mk (Hg8.out.on hb_); replace Hg10 := Aside0.mk (Hg10.out.on hb_); replace HB := Aside0.mk (bl_on HB.out hb_ HB.out.size); replace HS := Aside0.mk (Nat.le_trans HS.out hb_.size); clear hb_) | ((with_reducible refine gate_dst (N := 44) rfl ?_); refine wpList_step (fun K_ hK_ => ?_); refine goes_ Try.func16 (by kernel_rfl) rfl #[] (by rfl) rfl rfl (by (try simp only [List.map_toArray, List.map_cons, List.map_nil]); first | done | rfl) ?_; (with_reducible refine (K3.out _).mono ?_); rintro e u25 ⟨rfl, hb_⟩; refine ⟨_, rfl, ?_⟩; refine hK_ _ _ ?_; clear hK_ K_; replace HA := Aside0.mk (HA.out.on hb_); replace HC2 := Aside0.mk (HC2.out.on hb_); replace Hg8 := Aside0.mk (Hg8.out.on hb_); replace Hg10 := Aside0.mk (Hg10.out.on hb_); replace HB := Aside0.mk (bl_on HB.out hb_ HB.out.size); replace HS := Aside0.mk (Nat.le_trans HS.out hb_.size); clear hb_) | ((with_reducible refine gate_dst (N := 45) rfl ?_); refine wpList_step (fun K_ hK_ => ?_); refine goes_ Try.func17 (by kernel_rfl) rfl #[] (by rfl) rfl rfl (by (try simp only [List.map_toArray, List.map_cons, List.map_nil]); first | done | rfl) ?_; (with_reducible refine (K4.out _).mono ?_); rintro e u26 ⟨rfl, hb_⟩; refine ⟨_, rfl, ?_⟩; refine hK_ _ _ ?_; clear hK_ K_; replace HA := Aside0.mk (HA.out.on hb_); replace HC2 := Aside0.mk (HC2.out.on hb_); replace Hg8 := Aside0.mk (Hg8.out.on hb_); replace Hg10 := Aside0.mk (Hg10.out.on hb_); replace HB := Aside0.mk (bl_on HB.out hb_ HB.out.size); replace HS := Aside0.mk (Nat.le_trans HS.out hb_.size); clear hb_) | ((with_reducible refine gate_dst (N := 49) rfl ?_); refine wpList_step (fun K_ hK_ => ?_); refine goes_ Try.func18 (by kernel_rfl) rfl #[] (by rfl) rfl rfl (by (try simp only [List.map_toArray, List.map_cons, List.map_nil]); first | done | rfl) ?_; (with_reducible refine (K5.out _).mono ?_); rintro e u27 ⟨rfl, hb_⟩; refine ⟨_, rfl, ?_⟩; refine hK_ _ _ ?_; clear hK_ K_; replace HA := Aside0.mk (HA.out.on hb_); replace HC2 := Aside0.mk (HC2.out.on hb_); replace Hg8 := Aside0.mk (Hg8.out.on hb_); replace Hg10 := Aside0.mk (Hg10.out.on hb_); replace HB := Aside0.mk (bl_on HB.out hb_ HB.out.size); replace HS := Aside0.mk (Nat.le_trans HS.out hb_.size); clear hb_) | ((with_reducible refine gate_dst (N := 50) rfl ?_); refine wpList_step (fun K_ hK_ => ?_); refine goes_ Try.func19 (by kernel_rfl) rfl #[] (by rfl) rfl rfl (by (try simp only [List.map_toArray, List.map_cons, List.map_nil]); first | done | rfl) ?_; (with_reducible refine (K6.out _).mono ?_); rintro e u28 ⟨rfl, hb_⟩; refine ⟨_, rfl, ?_⟩; refine hK_ _ _ ?_; clear hK_ K_; replace HA := Aside0.mk (HA.out.on hb_); replace HC2 := Aside0.mk (HC2.out.on hb_); replace Hg8 := Aside0.mk (Hg8.out.on hb_); replace Hg10 := Aside0.mk (Hg10.out.on hb_); replace HB := Aside0.mk (bl_on HB.out hb_ HB.out.size); replace HS := Aside0.mk (Nat.le_trans HS.out hb_.size); clear hb_))
 refine start_ (n := 25) (S := fun w' => Below u28.heap.size u28 w') (ds := []) (bs 25 0) (by kernel_rfl) rfl rfl ((Below.refl _ _).drew) (fun hHeld => ?_)
 refine pu_ 0 53 (bs 25 1) ?_ ?_ ?_ ?_ ?_
 rotate_left
 ·intro w'
  go_simp
  with_reducible rfl
 rotate_left
 ·simp only [aS, i64_w, i32_w]
  rfl
 refine pu_ 1 54 (bs 25 3) ?_ ?_ ?_ ?_ ?_
 rotate_left
 ·intro w'
  go_simp
  with_reducible rfl
 rotate_left
 ·simp only [aS, i64_w, i32_w]
  rfl
 refine pu_ 2 55 (bs 25 7) ?_ ?_ ?_ ?_ ?_
 rotate_left
 ·intro w'
  go_simp
  with_reducible rfl
 rotate_left
 ·simp only [aS, i64_w, i32_w]
  rfl
 refine pu_ 3 56 (bs 25 15) ?_ ?_ ?_ ?_ ?_
 rotate_left
 ·intro w'
  go_simp
  with_reducible rfl
 rotate_left
 ·simp only [aS, i64_w, i32_w]
  rfl
 refine pu_ 4 57 (bs 25 31) ?_ ?_ ?_ ?_ ?_
 rotate_left
 ·intro w'
  go_simp
  with_reducible rfl
 rotate_left
 ·simp only [aS, i64_w, i32_w]
  rfl
 refine take_ (i := 5) (N := some 58) (a' := ?_) (bs 25 63) rfl rfl (by kernel_rfl) (fun _ _ _ h => h) (yieldsIf_load_mid (by rfl) 26 (.tmp 10) rfl (g10) 0 rfl ((pw xm ym fm)) _ (fun w' hS => (Hg10.out.on hS).range) rfl rfl (rfl)) hHeld ?_ ?_
 rotate_left
 ·simp only [aS, i64_w, i32_w]
  rfl
 refine take_ (i := 6) (N := some 59) (a' := ?_) (bs 25 127) rfl rfl (by kernel_rfl) (fun _ _ _ h => h) (yieldsIf_load_mid (by rfl) 26 (.tmp 2) rfl (w.heap.size) 0 rfl ((pw xa ya fa)) _ (fun w' hS => (HA.out.on hS).range) rfl rfl (rfl)) hHeld ?_ ?_
 rotate_left
 ·simp only [aS, i64_w, i32_w]
  rfl
 refine on1_ 7 (some 60) (bs 25 255) rfl fun K hK => ?_
 refine gs_ Try.func20 #[ptV xa ya fa] rfl ?_
 with_reducible refine (RN.out _).mono ?_
 rintro e u29 ⟨rfl, hb_u29⟩
 refine ⟨_, rfl, ?_⟩
 have hq_u29 := bl_on hHeld hb_u29 hHeld.size
 refine hK.out _ _ (hq_u29) (fun hHeld => ?_)
 clear hK K
 refine nm_ (some 60) ?_
 refine pu_ 8 61 (bs 25 511) ?_ ?_ ?_ ?_ ?_
 rotate_left
 ·intro w'
  go_simp
  with_reducible rfl
 rotate_left
 ·simp only [aS, i64_w, i32_w]
  rfl
 refine pu_ 9 62 (bs 25 1023) ?_ ?_ ?_ ?_ ?_
 rotate_left
 ·intro w'
  go_simp
  with_reducible rfl
 rotate_left
 ·simp only [aS, i64_w, i32_w]
  rfl
 refine pu_ 10 63 (bs 25 2047) ?_ ?_ ?_ ?_ ?_
 rotate_left
 ·intro w'
  go_simp
  with_reducible rfl
 rotate_left
 ·simp only [aS, i64_w, i32_w]
  rfl
 refine pu_ 11 64 (bs 25 4095) ?_ ?_ ?_ ?_ ?_
 rotate_left
 ·intro w'
  go_simp
  with_reducible rfl
 rotate_left
 ·simp only [aS, i64_w, i32_w]
  rfl
 refine pu_ 12 65 (bs 25 8191) ?_ ?_ ?_ ?_ ?_
 rotate_left
 ·intro w'
  go_simp
  with_reducible rfl
 rotate_left
 ·simp only [aS, i64_w, i32_w]
  rfl
 refine pu_ 13 66 (bs 25 16383) ?_ ?_ ?_ ?_ ?_
 rotate_left
 ·intro w'
  go_simp
  with_reducible rfl
 rotate_left
 ·simp only [aS, i64_w, i32_w]
  rfl
 refine pu_ 14 67 (bs 25 32767) ?_ ?_ ?_ ?_ ?_
 rotate_left
 ·intro w'
  go_simp
  with_reducible rfl
 rotate_left
 ·simp only [aS, i64_w, i32_w]
  rfl
 refine pv_ 15 68 (bs 25 65535) ?_ ?_ ?_
 rotate_left
 ·simp only [aS, i64_w, i32_w]
  rfl
 refine pv_ 16 69 (bs 25 131071) ?_ ?_ ?_
 rotate_left
 ·simp only [aS, i64_w, i32_w]
  rfl
 refine pv_ 17 70 (bs 25 262143) ?_ ?_ ?_
 rotate_left
 ·simp only [aS, i64_w, i32_w]
  rfl
 refine pv_ 18 71 (bs 25 524287) ?_ ?_ ?_
 rotate_left
 ·simp only [aS, i64_w, i32_w]
  rfl
 refine pv_ 19 72 (bs 25 1048575) ?_ ?_ ?_
 rotate_left
 ·simp only [aS, i64_w, i32_w]
  rfl
 refine pv_ 20 73 (bs 25 2097151) ?_ ?_ ?_
 rotate_left
 ·simp only [aS, i64_w, i32_w]
  rfl
 refine pv_ 21 74 (bs 25 4194303) ?_ ?_ ?_
 rotate_left
 ·simp only [aS, i64_w, i32_w]
  rfl
 refine pv_ 22 75 (bs 25 8388607) ?_ ?_ ?_
 rotate_left
 ·simp only [aS, i64_w, i32_w]
  rfl
 refine pu_ 23 76 (bs 25 16777215) ?_ ?_ ?_ ?_ ?_
 rotate_left
 ·intro w'
  go_simp
  with_reducible rfl
 rotate_left
 ·simp only [aS, i64_w, i32_w]
  rfl
 refine pu_ 24 77 (bs 25 33554431) ?_ ?_ ?_ ?_ ?_
 rotate_left
 ·intro w'
  go_simp
  with_reducible rfl
 rotate_left
 ·simp only [aS, i64_w, i32_w]
  rfl
 refine done_ (by kernel_rfl) ?_
 replace HA := Aside0.mk (HA.out.on hHeld)
 replace HC2 := Aside0.mk (HC2.out.on hHeld)
 replace Hg8 := Aside0.mk (Hg8.out.on hHeld)
 replace Hg10 := Aside0.mk (Hg10.out.on hHeld)
 replace HB := Aside0.mk (bl_on HB.out hHeld HB.out.size)
 replace HS := Aside0.mk (Nat.le_trans HS.out hHeld.size)
 clear hb_u29 hHeld
 go_upto_region 12 with (fail)
 refine start_ (n := 13) (S := fun w' => Below u29.heap.size u29 w') (ds := []) (bs 13 0) (by kernel_rfl) rfl rfl ((Below.refl _ _).drew) (fun hHeld => ?_)
 refine pu_ 0 95 (bs 13 1) ?_ ?_ ?_ ?_ ?_
 rotate_left
 ·intro w'
  go_simp
  with_reducible rfl
 rotate_left
 ·simp only [aS, i64_w, i32_w]
  rfl
 refine pu_ 1 96 (bs 13 3) ?_ ?_ ?_ ?_ ?_
 rotate_left
 ·intro w'
  go_simp
  with_reducible rfl
 rotate_left
 ·simp only [aS, i64_w, i32_w]
  rfl
 refine pu_ 2 97 (bs 13 7) ?_ ?_ ?_ ?_ ?_
 rotate_left
 ·intro w'
  go_simp
  with_reducible rfl
 rotate_left
 ·simp only [aS, i64_w, i32_w]
  rfl
 refine pu_ 3 98 (bs 13 15) ?_ ?_ ?_ ?_ ?_
 rotate_left
 ·intro w'
  go_simp
  with_reducible rfl
 rotate_left
 ·simp only [aS, i64_w, i32_w]
  rfl
 refine pu_ 4 99 (bs 13 31) ?_ ?_ ?_ ?_ ?_
 rotate_left
 ·intro w'
  go_simp
  with_reducible rfl
 rotate_left
 ·simp only [aS, i64_w, i32_w]
  rfl
 refine pu_ 5 100 (bs 13 63) ?_ ?_ ?_ ?_ ?_
 rotate_left
 ·intro w'
  go_simp
  with_reducible rfl
 rotate_left
 ·simp only [aS, i64_w, i32_w]
  rfl
 refine take_ (i := 6) (N := some 101) (a' := ?_) (bs 13 127) rfl rfl (by kernel_rfl) (fun _ _ _ h => h) (yieldsIf_load_mid (by rfl) 26 (.tmp 8) rfl (g8) 0 rfl ((pw xs ys fs)) _ (fun w' hS => (Hg8.out.on hS).range) rfl rfl (rfl)) hHeld ?_ ?_
 rotate_left
 ·simp only [aS, i64_w, i32_w]
  rfl
 refine take_ (i := 7) (N := some 102) (a' := ?_) (bs 13 255) rfl rfl (by kernel_rfl) (fun _ _ _ h => h) (yieldsIf_load_mid (by rfl) 26 (.tmp 2) rfl (w.heap.size) 0 rfl ((pw xa ya fa)) _ (fun w' hS => (HA.out.on hS).range) rfl rfl (rfl)) hHeld ?_ ?_
 rotate_left
 ·simp only [aS, i64_w, i32_w]
  rfl
 refine take_ (i := 8) (N := some 103) (a' := ?_) (bs 13 511) rfl rfl (by kernel_rfl) (fun _ _ _ h => h) (yieldsIf_load_mid (by rfl) 26 (.tmp 3) rfl (w.heap.size + 1) 0 rfl ((pw xb yb fb)) _ (fun w' hS => (HC2.out.on hS).range) rfl rfl (rfl)) hHeld ?_ ?_
 rotate_left
 ·simp only [aS, i64_w, i32_w]
  rfl
 refine on1_ 9 (some 104) (bs 13 1023) rfl fun K hK => ?_
 refine gs_ Try.func21 #[ptV xa ya fa, ptV xb yb fb] rfl ?_
 with_reducible refine (RA.out _).mono ?_
 rintro e u30 ⟨rfl, hb_u30⟩
 refine ⟨_, rfl, ?_⟩
 have hq_u30 := bl_on hHeld hb_u30 hHeld.size
 refine hK.out _ _ (hq_u30) (fun hHeld => ?_)
 clear hK K
 refine nm_ (some 104) ?_
 refine pu_ 10 105 (bs 13 2047) ?_ ?_ ?_ ?_ ?_
 rotate_left
 ·intro w'
  go_simp
  with_reducible rfl
 rotate_left
 ·simp only [aS, i64_w, i32_w]
  rfl
 refine pu_ 11 106 (bs 13 4095) ?_ ?_ ?_ ?_ ?_
 rotate_left
 ·intro w'
  go_simp
  with_reducible rfl
 rotate_left
 ·simp only [aS, i64_w, i32_w]
  rfl
 refine pu_ 12 4 (bs 13 8191) ?_ ?_ ?_ ?_ ?_
 rotate_left
 ·intro w'
  go_simp
  with_reducible rfl
 rotate_left
 ·simp only [aS, i64_w, i32_w]
  rfl
 refine done_ (by kernel_rfl) ?_
 replace HA := Aside0.mk (HA.out.on hHeld)
 replace HC2 := Aside0.mk (HC2.out.on hHeld)
 replace Hg8 := Aside0.mk (Hg8.out.on hHeld)
 replace Hg10 := Aside0.mk (Hg10.out.on hHeld)
 replace HB := Aside0.mk (bl_on HB.out hHeld HB.out.size)
 replace HS := Aside0.mk (Nat.le_trans HS.out hHeld.size)
 clear hb_u30 hHeld
 go_wp2
 go_ret
 exact ⟨rfl, HB.out⟩
set_option maxRecDepth 100000 in
set_option maxHeartbeats 8000000 in
theorem psm_true_false {P : Pt pP} (hP : On cb P) {xb yb : Nat} {fb : Bool} (nb : xb < N256) (mb : yb < N256) (hb : onB xb yb fb = false) (w : World) :
  Calls Try.prog 4 #[vP P, ptV xb yb fb] w fun e w' => e = .returned (.bool true) ∧ Below w.heap.size w w' := by
 obtain ⟨xa, ya, fa, ea, na, ma⟩ := vP_form (P)
 obtain ⟨xm, ym, fm, em, nm, mm⟩ := vP_form (neg P)
 have ha : onB xa ya fa = true := by have h := on_back hP; obtain ⟨h1, h2, h3⟩ := pt_inj (ea : ptV _ _ _ = _) (vN P).1 (vN P).2 na ma; rw [h1, h2, h3] at h; exact h
 have KU := Aside0.mk (fun (u : World) => up_calls u)
 have Ra := fun (u : World) => rOn_calls na ma fa u
 rw [ha] at Ra
 replace Ra := Aside0.mk Ra
 have Rb := fun (u : World) => rOn_calls nb mb fb u
 rw [hb] at Rb
 replace Rb := Aside0.mk Rb
 have Oa := fun (u : World) => pOn_calls na ma fa u
 rw [ha] at Oa
 replace Oa := Aside0.mk Oa
 have Ob := fun (u : World) => pOn_calls nb mb fb u
 rw [hb] at Ob
 replace Ob := Aside0.mk Ob
 have e1 : apV xa ya fa xb yb fb = .tuple #[ptV 0 0 false, .iface 38 (.int .i64 1)] := by unfold apV; rw [ha, hb]; rfl
 have KA := fun (u : World) => pAdd_calls (f1 := fa) (f2 := fb) na ma nb mb u
 rw [e1] at KA
 replace KA := Aside0.mk KA
 have KN : Aside0 (∀ u, Calls Try.prog 12 #[ptV xa ya fa] u fun e w' => e = .returned (.tuple #[ptV xm ym fm, .nilIface]) ∧ Below u.heap.size u w') := Aside0.mk (fun u => by
  have h := gNeg hP u
  rw [ea, em] at h
  exact h)
 have RN : Aside0 (∀ u, Calls Try.prog 20 #[ptV xa ya fa] u fun e w' => e = .returned (ptV xm ym fm) ∧ Below u.heap.size u w') := Aside0.mk (fun u => by
  have h := rgNeg (P := P) u
  rw [ea, em] at h
  exact h)
 have q1 : ∀ w, (binOp .neq 26 (.agg (pw xm ym fm).toArray) (ptV xm ym fm)).run Try.prog w = .ok (.bool false) w := fun w => by
  have h := neq_pt nm mm nm mm fm fm w
  rw [decide_eq_true ⟨rfl, rfl, rfl⟩] at h
  exact h
 have gq1 : ∀ w x_ y_, (eqGuard .neq 26 x_ y_ (.agg (pw xm ym fm).toArray) (ptV xm ym fm)).run Try.prog w = .ok () w := fun w x_ y_ => eqg_pt .neq x_ y_ xm ym xm ym fm fm w
 have q2 : ∀ w, (binOp .eql 26 (ptV 0 0 false) (.agg #[.int .u64 0, .int .u64 0, .int .u64 0, .int .u64 0, .int .u64 0, .int .u64 0, .int .u64 0, .int .u64 0, .bool false])).run Try.prog w = .ok (.bool true) w := fun w => by
  have h := eql_pt (x := 0) (y := 0) (x' := 0) (y' := 0) N256_pos N256_pos N256_pos N256_pos false false w
  rw [decide_eq_true ⟨rfl, rfl, rfl⟩] at h
  exact h
 have gq2 : ∀ w x_ y_, (eqGuard .eql 26 x_ y_ (ptV 0 0 false) (.agg #[.int .u64 0, .int .u64 0, .int .u64 0, .int .u64 0, .int .u64 0, .int .u64 0, .int .u64 0, .int .u64 0, .bool false])).run Try.prog w = .ok () w := fun w x_ y_ => eqg_pt .eql x_ y_ 0 0 0 0 false false w
 have qp : ∀ w, (binOp .neq 24 (numV pP) (numV pP)).run Try.prog w = .ok (.bool false) w := fun w => by
  have h := neq_num pP_lt pP_lt w
  rw [decide_eq_true rfl] at h
  exact h
 have qn : ∀ w, (binOp .neq 24 (numV nN) (numV nN)).run Try.prog w = .ok (.bool false) w := fun w => by
  have h := neq_num nN_lt nN_lt w
  rw [decide_eq_true rfl] at h
  exact h
 have qg : ∀ w, (binOp .neq 26 (ptV gX gY false) (ptV gX gY false)).run Try.prog w = .ok (.bool false) w := fun w => by
  have h := neq_pt gX_N gY_N gX_N gY_N false false w
  rw [decide_eq_true ⟨rfl, rfl, rfl⟩] at h
  exact h
 have gqg : ∀ w x_ y_, (eqGuard .neq 26 x_ y_ (ptV gX gY false) (ptV gX gY false)).run Try.prog w = .ok () w := fun w x_ y_ => eqg_pt .neq x_ y_ gX gY gX gY false false w
 rw [ea]
 have K1 := Aside0.mk (fun (u : World) => cp_calls u)
 have K2 := Aside0.mk (fun (u : World) => rcp_calls u)
 have K3 := Aside0.mk (fun (u : World) => cn_calls u)
 have K4 := Aside0.mk (fun (u : World) => rcn_calls u)
 have K5 := Aside0.mk (fun (u : World) => pbase_calls u)
 have K6 := Aside0.mk (fun (u : World) => rbase_calls u)
 clear na ma nb mb ha hb ea em hP nm mm e1
 go_enter Try.func4, Try.ntmps4
 go_upto_region 1 with (fail)
 refine wp_at (w2 := (World.alloc (World.alloc w (.cells (pw xa ya fa).toArray 26)) (.cells (pw xb yb fb).toArray 26))) rfl ?_
 obtain ⟨x_0, e_0, h_0, b_0, s_0⟩ := new_PtAt w xa ya fa
 obtain ⟨x_1, e_1, h_1, b_1, s_1⟩ := new_PtAt x_0 xb yb fb
 rw [e_0, e_1]
 rw [s_0] at h_1 s_1
 have HB : Aside0 (Below w.heap.size w x_1) := Aside0.mk (bl_both b_0 b_1)
 have HA : Aside0 (PtAt x_1 (w.heap.size) xa ya fa) := Aside0.mk (h_0.on b_1)
 have HC2 : Aside0 (PtAt x_1 (w.heap.size + 1) xb yb fb) := Aside0.mk h_1
 have HS : Aside0 (w.heap.size + 1 + 1 ≤ x_1.heap.size) := Aside0.mk (Nat.le_of_eq s_1.symm)
 clear e_0 h_0 b_0 s_0 e_1 h_1 b_1 s_1
 obtain ⟨w1, hw_⟩ : ∃ x, x = x_1 := ⟨_, rfl⟩
 subst hw_
 clear x_0
 go_upto_region 2 with (first | ((with_reducible refine gate_dst (N := 12) rfl ?_); refine goesL_ (some 12) rfl rfl Try.func9 (by kernel_rfl) rfl #[] rfl (by (try simp only [List.map_toArray, List.map_cons, List.map_nil]); first | done | rfl) ?_; (with_reducible refine (KU.out _).mono ?_); rintro e u31 ⟨rfl, hb_⟩; refine ⟨_, rfl, ?_⟩; replace HA := Aside0.mk (HA.out.on hb_); replace HC2 := Aside0.mk (HC2.out.on hb_); replace HB := Aside0.mk (bl_on HB.out hb_ HB.out.size); replace HS := Aside0.mk (Nat.le_trans HS.out hb_.size); clear hb_))
 go_upto_region 3 with (first | ((with_reducible refine gate_dst (N := 13) rfl ?_); refine ld_pt HA.out rfl _ rfl rfl ?_) | ((with_reducible refine gate_dst (N := 14) rfl ?_); refine goesL_ (some 14) rfl rfl Try.func13 (by kernel_rfl) rfl #[ptV xa ya fa] rfl (by (try simp only [List.map_toArray, List.map_cons, List.map_nil]); first | done | rfl) ?_; (with_reducible refine (Ra.out _).mono ?_); rintro e u32 ⟨rfl, hb_⟩; refine ⟨_, rfl, ?_⟩; replace HA := Aside0.mk (HA.out.on hb_); replace HC2 := Aside0.mk (HC2.out.on hb_); replace HB := Aside0.mk (bl_on HB.out hb_ HB.out.size); replace HS := Aside0.mk (Nat.le_trans HS.out hb_.size); clear hb_))
 go_upto_region 4 with (first | ((with_reducible refine gate_dst (N := 15) rfl ?_); refine ld_pt HC2.out rfl _ rfl rfl ?_) | ((with_reducible refine gate_dst (N := 16) rfl ?_); refine goesL_ (some 16) rfl rfl Try.func13 (by kernel_rfl) rfl #[ptV xb yb fb] rfl (by (try simp only [List.map_toArray, List.map_cons, List.map_nil]); first | done | rfl) ?_; (with_reducible refine (Rb.out _).mono ?_); rintro e u33 ⟨rfl, hb_⟩; refine ⟨_, rfl, ?_⟩; replace HA := Aside0.mk (HA.out.on hb_); replace HC2 := Aside0.mk (HC2.out.on hb_); replace HB := Aside0.mk (bl_on HB.out hb_ HB.out.size); replace HS := Aside0.mk (Nat.le_trans HS.out hb_.size); clear hb_))
 go_upto_region 5 with (first | ((with_reducible refine gate_dst (N := 18) rfl ?_); refine ld_pt HA.out rfl _ rfl rfl ?_) | ((with_reducible refine gate_dst (N := 19) rfl ?_); refine ld_pt HC2.out rfl _ rfl rfl ?_) | ((with_reducible refine gate_dst (N := 20) rfl ?_); refine goesL_ (some 20) rfl rfl Try.func11 (by kernel_rfl) rfl #[ptV xa ya fa, ptV xb yb fb] rfl (by (try simp only [List.map_toArray, List.map_cons, List.map_nil]); first | done | rfl) ?_; (with_reducible refine (KA.out _).mono ?_); rintro e u34 ⟨rfl, hb_⟩; refine ⟨_, rfl, ?_⟩; replace HA := Aside0.mk (HA.out.on hb_); replace HC2 := Aside0.mk (HC2.out.on hb_); replace HB := Aside0.mk (bl_on HB.out hb_ HB.out.size); replace HS := Aside0.mk (Nat.le_trans HS.out hb_.size); clear hb_) | ((with_reducible refine gate_dst (N := 8) rfl ?_); refine al_pt rfl _ rfl rfl ?_; intro g8 u35 eg_ hn_ hb_; have HXg8 : Aside0 (w.heap.size + 1 + 1 ≤ g8) := Aside0.mk (by rw [eg_]; exact HS.out); replace HA := Aside0.mk (HA.out.on hb_); replace HC2 := Aside0.mk (HC2.out.on hb_); replace HB := Aside0.mk (bl_on HB.out hb_ HB.out.size); replace HS := Aside0.mk (Nat.le_trans HS.out hb_.size); have Hg8 := Aside0.mk hn_; clear hn_ hb_ eg_) | ((with_reducible refine gate_st (y := .tmp 21) rfl ?_); (try simp only [aS]); refine st_pt (x := 0) (y := 0) (f := false) Hg8.out rfl _ _ rfl rfl rfl ?_; intro u36 hn_ hb_; replace HA := Aside0.mk (HA.out.but hb_ (by have := HXg8.out; omega)); replace HC2 := Aside0.mk (HC2.out.but hb_ (by have := HXg8.out; omega)); replace Hg8 := Aside0.mk hn_; replace HB := Aside0.mk (bl_but HB.out hb_ HB.out.size (by have := HXg8.out; omega)); replace HS := Aside0.mk (Nat.le_trans HS.out hb_.size); clear hn_ hb_))
 go_upto_region 6 with (first | ((with_reducible refine gate_dst (N := 24) rfl ?_); refine ld_pt HA.out rfl _ rfl rfl ?_) | ((with_reducible refine gate_dst (N := 25) rfl ?_); refine goesL_ (some 25) rfl rfl Try.func12 (by kernel_rfl) rfl #[ptV xa ya fa] rfl (by (try simp only [List.map_toArray, List.map_cons, List.map_nil]); first | done | rfl) ?_; (with_reducible refine (KN.out _).mono ?_); rintro e u37 ⟨rfl, hb_⟩; refine ⟨_, rfl, ?_⟩; replace HA := Aside0.mk (HA.out.on hb_); replace HC2 := Aside0.mk (HC2.out.on hb_); replace Hg8 := Aside0.mk (Hg8.out.on hb_); replace HB := Aside0.mk (bl_on HB.out hb_ HB.out.size); replace HS := Aside0.mk (Nat.le_trans HS.out hb_.size); clear hb_) | ((with_reducible refine gate_dst (N := 10) rfl ?_); refine al_pt rfl _ rfl rfl ?_; intro g10 u38 eg_ hn_ hb_; have HXg10 : Aside0 (w.heap.size + 1 + 1 ≤ g10 ∧ g8 < g10) := Aside0.mk (by rw [eg_]; exact ⟨HS.out, Hg8.out.size⟩); replace HA := Aside0.mk (HA.out.on hb_); replace HC2 := Aside0.mk (HC2.out.on hb_); replace Hg8 := Aside0.mk (Hg8.out.on hb_); replace HB := Aside0.mk (bl_on HB.out hb_ HB.out.size); replace HS := Aside0.mk (Nat.le_trans HS.out hb_.size); have Hg10 := Aside0.mk hn_; clear hn_ hb_ eg_) | ((with_reducible refine gate_st (y := .tmp 26) rfl ?_); (try simp only [aS]); refine st_pt (x := xm) (y := ym) (f := fm) Hg10.out rfl _ _ rfl rfl rfl ?_; intro u39 hn_ hb_; replace HA := Aside0.mk (HA.out.but hb_ (by have := HXg8.out; have := HXg10.out; omega)); replace HC2 := Aside0.mk (HC2.out.but hb_ (by have := HXg8.out; have := HXg10.out; omega)); replace Hg8 := Aside0.mk (Hg8.out.but hb_ (by have := HXg8.out; have := HXg10.out; omega)); replace Hg10 := Aside0.mk hn_; replace HB := Aside0.mk (bl_but HB.out hb_ HB.out.size (by have := HXg8.out; have := HXg10.out; omega)); replace HS := Aside0.mk (Nat.le_trans HS.out hb_.size); clear hn_ hb_))
 go_upto_region 8 with (first | ((with_reducible refine gate_dst (N := 28) rfl ?_); refine ld_pt HA.out rfl _ rfl rfl ?_) | ((with_reducible refine gate_dst (N := 29) rfl ?_); refine goesL_ (some 29) rfl rfl Try.func10 (by kernel_rfl) rfl #[ptV xa ya fa] rfl (by (try simp only [List.map_toArray, List.map_cons, List.map_nil]); first | done | rfl) ?_; (with_reducible refine (Oa.out _).mono ?_); rintro e u40 ⟨rfl, hb_⟩; refine ⟨_, rfl, ?_⟩; replace HA := Aside0.mk (HA.out.on hb_); replace HC2 := Aside0.mk (HC2.out.on hb_); replace Hg8 := Aside0.mk (Hg8.out.on hb_); replace Hg10 := Aside0.mk (Hg10.out.on hb_); replace HB := Aside0.mk (bl_on HB.out hb_ HB.out.size); replace HS := Aside0.mk (Nat.le_trans HS.out hb_.size); clear hb_) | ((with_reducible refine gate_dst (N := 33) rfl ?_); refine ld_ptG HC2.out (by rfl) _ rfl rfl ?_) | ((with_reducible refine gate_dst (N := 34) rfl ?_); refine wpList_step (fun K_ hK_ => ?_); refine goes_ Try.func10 (by kernel_rfl) rfl #[ptV xb yb fb] (by rfl) rfl rfl (by (try simp only [List.map_toArray, List.map_cons, List.map_nil]); first | done | rfl) ?_; (with_reducible refine (Ob.out _).mono ?_); rintro e u41 ⟨rfl, hb_⟩; refine ⟨_, rfl, ?_⟩; refine hK_ _ _ ?_; clear hK_ K_; replace HA := Aside0.mk (HA.out.on hb_); replace HC2 := Aside0.mk (HC2.out.on hb_); replace Hg8 := Aside0.mk (Hg8.out.on hb_); replace Hg10 := Aside0.mk (Hg10.out.on hb_); replace HB := Aside0.mk (bl_on HB.out hb_ HB.out.size); replace HS := Aside0.mk (Nat.le_trans HS.out hb_.size); clear hb_) | ((with_reducible refine gate_dst (N := 39) rfl ?_); refine wpList_step (fun K_ hK_ => ?_); refine goes_ Try.func14 (by kernel_rfl) rfl #[] (by rfl) rfl rfl (by (try simp only [List.map_toArray, List.map_cons, List.map_nil]); first | done | rfl) ?_; (with_reducible refine (K1.out _).mono ?_); rintro e u42 ⟨rfl, hb_⟩; refine ⟨_, rfl, ?_⟩; refine hK_ _ _ ?_; clear hK_ K_; replace HA := Aside0.mk (HA.out.on hb_); replace HC2 := Aside0.mk (HC2.out.on hb_); replace Hg8 := Aside0.mk (Hg8.out.on hb_); replace Hg10 := Aside0.mk (Hg10.out.on hb_); replace HB := Aside0.mk (bl_on HB.out hb_ HB.out.size); replace HS := Aside0.mk (Nat.le_trans HS.out hb_.size); clear hb_) | ((with_reducible refine gate_dst (N := 40) rfl ?_); refine wpList_step (fun K_ hK_ => ?_); refine goes_ Try.func15 (by kernel_rfl) rfl #[] (by rfl) rfl rfl (by (try simp only [List.map_toArray, List.map_cons, List.map_nil]); first | done | rfl) ?_; (with_reducible refine (K2.out _).mono ?_); rintro e u43 ⟨rfl, hb_⟩; refine ⟨_, rfl, ?_⟩; refine hK_ _ _ ?_; clear hK_ K_; replace HA := Aside0.mk (HA.out.on hb_); replace HC2 := Aside0.mk (HC2.out.on hb_); replace Hg8 := Aside0.mk (Hg8.out.on hb_); replace Hg10 := Aside0.mk (Hg10.out.on hb_); replace HB := Aside0.mk (bl_on HB.out hb_ HB.out.size); replace HS := Aside0.mk (Nat.le_trans HS.out hb_.size); clear hb_) | ((with_reducible refine gate_dst (N := 44) rfl ?_); refine wpList_step (fun K_ hK_ => ?_); refine goes_ Try.func16 (by kernel_rfl) rfl #[] (by rfl) rfl rfl (by (try simp only [List.map_toArray, List.map_cons, List.map_nil]); first | done | rfl) ?_; (with_reducible refine (K3.out _).mono ?_); rintro e u44 ⟨rfl, hb_⟩; refine ⟨_, rfl, ?_⟩; refine hK_ _ _ ?_; clear hK_ K_; replace HA := Aside0.mk (HA.out.on hb_); replace HC2 := Aside0.mk (HC2.out.on hb_); replace Hg8 := Aside0.mk (Hg8.out.on hb_); replace Hg10 := Aside0.mk (Hg10.out.on hb_); replace HB := Aside0.mk (bl_on HB.out hb_ HB.out.size); replace HS := Aside0.mk (Nat.le_trans HS.out hb_.size); clear hb_) | ((with_reducible refine gate_dst (N := 45) rfl ?_); refine wpList_step (fun K_ hK_ => ?_); refine goes_ Try.func17 (by kernel_rfl) rfl #[] (by rfl) rfl rfl (by (try simp only [List.map_toArray, List.map_cons, List.map_nil]); first | done | rfl) ?_; (with_reducible refine (K4.out _).mono ?_); rintro e u45 ⟨rfl, hb_⟩; refine ⟨_, rfl, ?_⟩; refine hK_ _ _ ?_; clear hK_ K_; replace HA := Aside0.mk (HA.out.on hb_); replace HC2 := Aside0.mk (HC2.out.on hb_); replace Hg8 := Aside0.mk (Hg8.out.on hb_); replace Hg10 := Aside0.mk (Hg10.out.on hb_); replace HB := Aside0.mk (bl_on HB.out hb_ HB.out.size); replace HS := Aside0.mk (Nat.le_trans HS.out hb_.size); clear hb_) | ((with_reducible refine gate_dst (N := 49) rfl ?_); refine wpList_step (fun K_ hK_ => ?_); refine goes_ Try.func18 (by kernel_rfl) rfl #[] (by rfl) rfl rfl (by (try simp only [List.map_toArray, List.map_cons, List.map_nil]); first | done | rfl) ?_; (with_reducible refine (K5.out _).mono ?_); rintro e u46 ⟨rfl, hb_⟩; refine ⟨_, rfl, ?_⟩; refine hK_ _ _ ?_; clear hK_ K_; replace HA := Aside0.mk (HA.out.on hb_); replace HC2 := Aside0.mk (HC2.out.on hb_); replace Hg8 := Aside0.mk (Hg8.out.on hb_); replace Hg10 := Aside0.mk (Hg10.out.on hb_); replace HB := Aside0.mk (bl_on HB.out hb_ HB.out.size); replace HS := Aside0.mk (Nat.le_trans HS.out hb_.size); clear hb_) | ((with_reducible refine gate_dst (N := 50) rfl ?_); refine wpList_step (fun K_ hK_ => ?_); refine goes_ Try.func19 (by kernel_rfl) rfl #[] (by rfl) rfl rfl (by (try simp only [List.map_toArray, List.map_cons, List.map_nil]); first | done | rfl) ?_; (with_reducible refine (K6.out _).mono ?_); rintro e u47 ⟨rfl, hb_⟩; refine ⟨_, rfl, ?_⟩; refine hK_ _ _ ?_; clear hK_ K_; replace HA := Aside0.mk (HA.out.on hb_); replace HC2 := Aside0.mk (HC2.out.on hb_); replace Hg8 := Aside0.mk (Hg8.out.on hb_); replace Hg10 := Aside0.mk (Hg10.out.on hb_); replace HB := Aside0.mk (bl_on HB.out hb_ HB.out.size); replace HS := Aside0.mk (Nat.le_trans HS.out hb_.size); clear hb_))
 refine start_ (n := 25) (S := fun w' => Below u47.heap.size u47 w') (ds := []) (bs 25 0) (by kernel_rfl) rfl rfl ((Below.refl _ _).drew) (fun hHeld => ?_)
 refine pu_ 0 53 (bs 25 1) ?_ ?_ ?_ ?_ ?_
 rotate_left
 ·intro w'
  go_simp
  with_reducible rfl
 rotate_left
 ·simp only [aS, i64_w, i32_w]
  rfl
 refine pu_ 1 54 (bs 25 3) ?_ ?_ ?_ ?_ ?_
 rotate_left
 ·intro w'
  go_simp
  with_reducible rfl
 rotate_left
 ·simp only [aS, i64_w, i32_w]
  rfl
 refine pu_ 2 55 (bs 25 7) ?_ ?_ ?_ ?_ ?_
 rotate_left
 ·intro w'
  go_simp
  with_reducible rfl
 rotate_left
 ·simp only [aS, i64_w, i32_w]
  rfl
 refine pu_ 3 56 (bs 25 15) ?_ ?_ ?_ ?_ ?_
 rotate_left
 ·intro w'
  go_simp
  with_reducible rfl
 rotate_left
 ·simp only [aS, i64_w, i32_w]
  rfl
 refine pu_ 4 57 (bs 25 31) ?_ ?_ ?_ ?_ ?_
 rotate_left
 ·intro w'
  go_simp
  with_reducible rfl
 rotate_left
 ·simp only [aS, i64_w, i32_w]
  rfl
 refine take_ (i := 5) (N := some 58) (a' := ?_) (bs 25 63) rfl rfl (by kernel_rfl) (fun _ _ _ h => h) (yieldsIf_load_mid (by rfl) 26 (.tmp 10) rfl (g10) 0 rfl ((pw xm ym fm)) _ (fun w' hS => (Hg10.out.on hS).range) rfl rfl (rfl)) hHeld ?_ ?_
 rotate_left
 ·simp only [aS, i64_w, i32_w]
  rfl
 refine take_ (i := 6) (N := some 59) (a' := ?_) (bs 25 127) rfl rfl (by kernel_rfl) (fun _ _ _ h => h) (yieldsIf_load_mid (by rfl) 26 (.tmp 2) rfl (w.heap.size) 0 rfl ((pw xa ya fa)) _ (fun w' hS => (HA.out.on hS).range) rfl rfl (rfl)) hHeld ?_ ?_
 rotate_left
 ·simp only [aS, i64_w, i32_w]
  rfl
 refine on1_ 7 (some 60) (bs 25 255) rfl fun K hK => ?_
 refine gs_ Try.func20 #[ptV xa ya fa] rfl ?_
 with_reducible refine (RN.out _).mono ?_
 rintro e u48 ⟨rfl, hb_u48⟩
 refine ⟨_, rfl, ?_⟩
 have hq_u48 := bl_on hHeld hb_u48 hHeld.size
 refine hK.out _ _ (hq_u48) (fun hHeld => ?_)
 clear hK K
 refine nm_ (some 60) ?_
 refine pu_ 8 61 (bs 25 511) ?_ ?_ ?_ ?_ ?_
 rotate_left
 ·intro w'
  go_simp
  with_reducible rfl
 rotate_left
 ·simp only [aS, i64_w, i32_w]
  rfl
 refine pu_ 9 62 (bs 25 1023) ?_ ?_ ?_ ?_ ?_
 rotate_left
 ·intro w'
  go_simp
  with_reducible rfl
 rotate_left
 ·simp only [aS, i64_w, i32_w]
  rfl
 refine pu_ 10 63 (bs 25 2047) ?_ ?_ ?_ ?_ ?_
 rotate_left
 ·intro w'
  go_simp
  with_reducible rfl
 rotate_left
 ·simp only [aS, i64_w, i32_w]
  rfl
 refine pu_ 11 64 (bs 25 4095) ?_ ?_ ?_ ?_ ?_
 rotate_left
 ·intro w'
  go_simp
  with_reducible rfl
 rotate_left
 ·simp only [aS, i64_w, i32_w]
  rfl
 refine pu_ 12 65 (bs 25 8191) ?_ ?_ ?_ ?_ ?_
 rotate_left
 ·intro w'
  go_simp
  with_reducible rfl
 rotate_left
 ·simp only [aS, i64_w, i32_w]
  rfl
 refine pu_ 13 66 (bs 25 16383) ?_ ?_ ?_ ?_ ?_
 rotate_left
 ·intro w'
  go_simp
  with_reducible rfl
 rotate_left
 ·simp only [aS, i64_w, i32_w]
  rfl
 refine pu_ 14 67 (bs 25 32767) ?_ ?_ ?_ ?_ ?_
 rotate_left
 ·intro w'
  go_simp
  with_reducible rfl
 rotate_left
 ·simp only [aS, i64_w, i32_w]
  rfl
 refine pv_ 15 68 (bs 25 65535) ?_ ?_ ?_
 rotate_left
 ·simp only [aS, i64_w, i32_w]
  rfl
 refine pv_ 16 69 (bs 25 131071) ?_ ?_ ?_
 rotate_left
 ·simp only [aS, i64_w, i32_w]
  rfl
 refine pv_ 17 70 (bs 25 262143) ?_ ?_ ?_
 rotate_left
 ·simp only [aS, i64_w, i32_w]
  rfl
 refine pv_ 18 71 (bs 25 524287) ?_ ?_ ?_
 rotate_left
 ·simp only [aS, i64_w, i32_w]
  rfl
 refine pv_ 19 72 (bs 25 1048575) ?_ ?_ ?_
 rotate_left
 ·simp only [aS, i64_w, i32_w]
  rfl
 refine pv_ 20 73 (bs 25 2097151) ?_ ?_ ?_
 rotate_left
 ·simp only [aS, i64_w, i32_w]
  rfl
 refine pv_ 21 74 (bs 25 4194303) ?_ ?_ ?_
 rotate_left
 ·simp only [aS, i64_w, i32_w]
  rfl
 refine pv_ 22 75 (bs 25 8388607) ?_ ?_ ?_
 rotate_left
 ·simp only [aS, i64_w, i32_w]
  rfl
 refine pu_ 23 76 (bs 25 16777215) ?_ ?_ ?_ ?_ ?_
 rotate_left
 ·intro w'
  go_simp
  with_reducible rfl
 rotate_left
 ·simp only [aS, i64_w, i32_w]
  rfl
 refine pu_ 24 77 (bs 25 33554431) ?_ ?_ ?_ ?_ ?_
 rotate_left
 ·intro w'
  go_simp
  with_reducible rfl
 rotate_left
 ·simp only [aS, i64_w, i32_w]
  rfl
 refine done_ (by kernel_rfl) ?_
 replace HA := Aside0.mk (HA.out.on hHeld)
 replace HC2 := Aside0.mk (HC2.out.on hHeld)
 replace Hg8 := Aside0.mk (Hg8.out.on hHeld)
 replace Hg10 := Aside0.mk (Hg10.out.on hHeld)
 replace HB := Aside0.mk (bl_on HB.out hHeld HB.out.size)
 replace HS := Aside0.mk (Nat.le_trans HS.out hHeld.size)
 clear hb_u48 hHeld
 go_upto_region 11 with (fail)
 go_wp2_with (first | ((with_reducible refine gate_dst (N := 91) rfl ?_); refine ld_ptG Hg8.out (by rfl) _ rfl rfl ?_))
 go_ret
 exact ⟨rfl, HB.out⟩
set_option maxRecDepth 100000 in
set_option maxHeartbeats 8000000 in
theorem psm_false_true {xa ya xb yb : Nat} {fa fb : Bool} (na : xa < N256) (ma : ya < N256) (nb : xb < N256) (mb : yb < N256) (ha : onB xa ya fa = false) (hb : onB xb yb fb = true) (w : World) :
  Calls Try.prog 4 #[ptV xa ya fa, ptV xb yb fb] w fun e w' => e = .returned (.bool true) ∧ Below w.heap.size w w' := by
 have KU := Aside0.mk (fun (u : World) => up_calls u)
 have Ra := fun (u : World) => rOn_calls na ma fa u
 rw [ha] at Ra
 replace Ra := Aside0.mk Ra
 have Rb := fun (u : World) => rOn_calls nb mb fb u
 rw [hb] at Rb
 replace Rb := Aside0.mk Rb
 have Oa := fun (u : World) => pOn_calls na ma fa u
 rw [ha] at Oa
 replace Oa := Aside0.mk Oa
 have Ob := fun (u : World) => pOn_calls nb mb fb u
 rw [hb] at Ob
 replace Ob := Aside0.mk Ob
 have e1 : apV xa ya fa xb yb fb = .tuple #[ptV 0 0 false, .iface 38 (.int .i64 1)] := by unfold apV; rw [ha, hb]; rfl
 have KA := fun (u : World) => pAdd_calls (f1 := fa) (f2 := fb) na ma nb mb u
 rw [e1] at KA
 replace KA := Aside0.mk KA
 have e2 : ngV xa ya fa = .tuple #[ptV 0 0 false, .iface 38 (.int .i64 1)] := by unfold ngV; rw [ha]; rfl
 have KN := fun (u : World) => pNeg_calls fa na ma u
 rw [e2] at KN
 replace KN := Aside0.mk KN
 have q1 : ∀ w, (binOp .neq 26 (.agg (pw 0 0 false).toArray) (.agg #[.int .u64 0, .int .u64 0, .int .u64 0, .int .u64 0, .int .u64 0, .int .u64 0, .int .u64 0, .int .u64 0, .bool false])).run Try.prog w = .ok (.bool false) w := fun w => by
  have h := neq_pt (x := 0) (y := 0) (x' := 0) (y' := 0) N256_pos N256_pos N256_pos N256_pos false false w
  rw [decide_eq_true ⟨rfl, rfl, rfl⟩] at h
  exact h
 have gq1 : ∀ w x_ y_, (eqGuard .neq 26 x_ y_ (.agg (pw 0 0 false).toArray) (.agg #[.int .u64 0, .int .u64 0, .int .u64 0, .int .u64 0, .int .u64 0, .int .u64 0, .int .u64 0, .int .u64 0, .bool false])).run Try.prog w = .ok () w := fun w x_ y_ => eqg_pt .neq x_ y_ 0 0 0 0 false false w
 have q2 : ∀ w, (binOp .eql 26 (ptV 0 0 false) (.agg #[.int .u64 0, .int .u64 0, .int .u64 0, .int .u64 0, .int .u64 0, .int .u64 0, .int .u64 0, .int .u64 0, .bool false])).run Try.prog w = .ok (.bool true) w := fun w => by
  have h := eql_pt (x := 0) (y := 0) (x' := 0) (y' := 0) N256_pos N256_pos N256_pos N256_pos false false w
  rw [decide_eq_true ⟨rfl, rfl, rfl⟩] at h
  exact h
 have gq2 : ∀ w x_ y_, (eqGuard .eql 26 x_ y_ (ptV 0 0 false) (.agg #[.int .u64 0, .int .u64 0, .int .u64 0, .int .u64 0, .int .u64 0, .int .u64 0, .int .u64 0, .int .u64 0, .bool false])).run Try.prog w = .ok () w := fun w x_ y_ => eqg_pt .eql x_ y_ 0 0 0 0 false false w
 have qp : ∀ w, (binOp .neq 24 (numV pP) (numV pP)).run Try.prog w = .ok (.bool false) w := fun w => by
  have h := neq_num pP_lt pP_lt w
  rw [decide_eq_true rfl] at h
  exact h
 have qn : ∀ w, (binOp .neq 24 (numV nN) (numV nN)).run Try.prog w = .ok (.bool false) w := fun w => by
  have h := neq_num nN_lt nN_lt w
  rw [decide_eq_true rfl] at h
  exact h
 have qg : ∀ w, (binOp .neq 26 (ptV gX gY false) (ptV gX gY false)).run Try.prog w = .ok (.bool false) w := fun w => by
  have h := neq_pt gX_N gY_N gX_N gY_N false false w
  rw [decide_eq_true ⟨rfl, rfl, rfl⟩] at h
  exact h
 have gqg : ∀ w x_ y_, (eqGuard .neq 26 x_ y_ (ptV gX gY false) (ptV gX gY false)).run Try.prog w = .ok () w := fun w x_ y_ => eqg_pt .neq x_ y_ gX gY gX gY false false w
 have K1 := Aside0.mk (fun (u : World) => cp_calls u)
 have K2 := Aside0.mk (fun (u : World) => rcp_calls u)
 have K3 := Aside0.mk (fun (u : World) => cn_calls u)
 have K4 := Aside0.mk (fun (u : World) => rcn_calls u)
 have K5 := Aside0.mk (fun (u : World) => pbase_calls u)
 have K6 := Aside0.mk (fun (u : World) => rbase_calls u)
 clear na ma nb mb ha hb e1 e2
 go_enter Try.func4, Try.ntmps4
 go_upto_region 1 with (fail)
 refine wp_at (w2 := (World.alloc (World.alloc w (.cells (pw xa ya fa).toArray 26)) (.cells (pw xb yb fb).toArray 26))) rfl ?_
 obtain ⟨x_0, e_0, h_0, b_0, s_0⟩ := new_PtAt w xa ya fa
 obtain ⟨x_1, e_1, h_1, b_1, s_1⟩ := new_PtAt x_0 xb yb fb
 rw [e_0, e_1]
 rw [s_0] at h_1 s_1
 have HB : Aside0 (Below w.heap.size w x_1) := Aside0.mk (bl_both b_0 b_1)
 have HA : Aside0 (PtAt x_1 (w.heap.size) xa ya fa) := Aside0.mk (h_0.on b_1)
 have HC2 : Aside0 (PtAt x_1 (w.heap.size + 1) xb yb fb) := Aside0.mk h_1
 have HS : Aside0 (w.heap.size + 1 + 1 ≤ x_1.heap.size) := Aside0.mk (Nat.le_of_eq s_1.symm)
 clear e_0 h_0 b_0 s_0 e_1 h_1 b_1 s_1
 obtain ⟨w1, hw_⟩ : ∃ x, x = x_1 := ⟨_, rfl⟩
 subst hw_
 clear x_0
 go_upto_region 2 with (first | ((with_reducible refine gate_dst (N := 12) rfl ?_); refine goesL_ (some 12) rfl rfl Try.func9 (by kernel_rfl) rfl #[] rfl (by (try simp only [List.map_toArray, List.map_cons, List.map_nil]); first | done | rfl) ?_; (with_reducible refine (KU.out _).mono ?_); rintro e u49 ⟨rfl, hb_⟩; refine ⟨_, rfl, ?_⟩; replace HA := Aside0.mk (HA.out.on hb_); replace HC2 := Aside0.mk (HC2.out.on hb_); replace HB := Aside0.mk (bl_on HB.out hb_ HB.out.size); replace HS := Aside0.mk (Nat.le_trans HS.out hb_.size); clear hb_))
 go_upto_region 3 with (first | ((with_reducible refine gate_dst (N := 13) rfl ?_); refine ld_pt HA.out rfl _ rfl rfl ?_) | ((with_reducible refine gate_dst (N := 14) rfl ?_); refine goesL_ (some 14) rfl rfl Try.func13 (by kernel_rfl) rfl #[ptV xa ya fa] rfl (by (try simp only [List.map_toArray, List.map_cons, List.map_nil]); first | done | rfl) ?_; (with_reducible refine (Ra.out _).mono ?_); rintro e u50 ⟨rfl, hb_⟩; refine ⟨_, rfl, ?_⟩; replace HA := Aside0.mk (HA.out.on hb_); replace HC2 := Aside0.mk (HC2.out.on hb_); replace HB := Aside0.mk (bl_on HB.out hb_ HB.out.size); replace HS := Aside0.mk (Nat.le_trans HS.out hb_.size); clear hb_))
 go_upto_region 4 with (first | ((with_reducible refine gate_dst (N := 15) rfl ?_); refine ld_pt HC2.out rfl _ rfl rfl ?_) | ((with_reducible refine gate_dst (N := 16) rfl ?_); refine goesL_ (some 16) rfl rfl Try.func13 (by kernel_rfl) rfl #[ptV xb yb fb] rfl (by (try simp only [List.map_toArray, List.map_cons, List.map_nil]); first | done | rfl) ?_; (with_reducible refine (Rb.out _).mono ?_); rintro e u51 ⟨rfl, hb_⟩; refine ⟨_, rfl, ?_⟩; replace HA := Aside0.mk (HA.out.on hb_); replace HC2 := Aside0.mk (HC2.out.on hb_); replace HB := Aside0.mk (bl_on HB.out hb_ HB.out.size); replace HS := Aside0.mk (Nat.le_trans HS.out hb_.size); clear hb_))
 go_upto_region 5 with (first | ((with_reducible refine gate_dst (N := 18) rfl ?_); refine ld_pt HA.out rfl _ rfl rfl ?_) | ((with_reducible refine gate_dst (N := 19) rfl ?_); refine ld_pt HC2.out rfl _ rfl rfl ?_) | ((with_reducible refine gate_dst (N := 20) rfl ?_); refine goesL_ (some 20) rfl rfl Try.func11 (by kernel_rfl) rfl #[ptV xa ya fa, ptV xb yb fb] rfl (by (try simp only [List.map_toArray, List.map_cons, List.map_nil]); first | done | rfl) ?_; (with_reducible refine (KA.out _).mono ?_); rintro e u52 ⟨rfl, hb_⟩; refine ⟨_, rfl, ?_⟩; replace HA := Aside0.mk (HA.out.on hb_); replace HC2 := Aside0.mk (HC2.out.on hb_); replace HB := Aside0.mk (bl_on HB.out hb_ HB.out.size); replace HS := Aside0.mk (Nat.le_trans HS.out hb_.size); clear hb_) | ((with_reducible refine gate_dst (N := 8) rfl ?_); refine al_pt rfl _ rfl rfl ?_; intro g8 u53 eg_ hn_ hb_; have HXg8 : Aside0 (w.heap.size + 1 + 1 ≤ g8) := Aside0.mk (by rw [eg_]; exact HS.out); replace HA := Aside0.mk (HA.out.on hb_); replace HC2 := Aside0.mk (HC2.out.on hb_); replace HB := Aside0.mk (bl_on HB.out hb_ HB.out.size); replace HS := Aside0.mk (Nat.le_trans HS.out hb_.size); have Hg8 := Aside0.mk hn_; clear hn_ hb_ eg_) | ((with_reducible refine gate_st (y := .tmp 21) rfl ?_); (try simp only [aS]); refine st_pt (x := 0) (y := 0) (f := false) Hg8.out rfl _ _ rfl rfl rfl ?_; intro u54 hn_ hb_; replace HA := Aside0.mk (HA.out.but hb_ (by have := HXg8.out; omega)); replace HC2 := Aside0.mk (HC2.out.but hb_ (by have := HXg8.out; omega)); replace Hg8 := Aside0.mk hn_; replace HB := Aside0.mk (bl_but HB.out hb_ HB.out.size (by have := HXg8.out; omega)); replace HS := Aside0.mk (Nat.le_trans HS.out hb_.size); clear hn_ hb_))
 go_upto_region 6 with (first | ((with_reducible refine gate_dst (N := 24) rfl ?_); refine ld_pt HA.out rfl _ rfl rfl ?_) | ((with_reducible refine gate_dst (N := 25) rfl ?_); refine goesL_ (some 25) rfl rfl Try.func12 (by kernel_rfl) rfl #[ptV xa ya fa] rfl (by (try simp only [List.map_toArray, List.map_cons, List.map_nil]); first | done | rfl) ?_; (with_reducible refine (KN.out _).mono ?_); rintro e u55 ⟨rfl, hb_⟩; refine ⟨_, rfl, ?_⟩; replace HA := Aside0.mk (HA.out.on hb_); replace HC2 := Aside0.mk (HC2.out.on hb_); replace Hg8 := Aside0.mk (Hg8.out.on hb_); replace HB := Aside0.mk (bl_on HB.out hb_ HB.out.size); replace HS := Aside0.mk (Nat.le_trans HS.out hb_.size); clear hb_) | ((with_reducible refine gate_dst (N := 10) rfl ?_); refine al_pt rfl _ rfl rfl ?_; intro g10 u56 eg_ hn_ hb_; have HXg10 : Aside0 (w.heap.size + 1 + 1 ≤ g10 ∧ g8 < g10) := Aside0.mk (by rw [eg_]; exact ⟨HS.out, Hg8.out.size⟩); replace HA := Aside0.mk (HA.out.on hb_); replace HC2 := Aside0.mk (HC2.out.on hb_); replace Hg8 := Aside0.mk (Hg8.out.on hb_); replace HB := Aside0.mk (bl_on HB.out hb_ HB.out.size); replace HS := Aside0.mk (Nat.le_trans HS.out hb_.size); have Hg10 := Aside0.mk hn_; clear hn_ hb_ eg_) | ((with_reducible refine gate_st (y := .tmp 26) rfl ?_); (try simp only [aS]); refine st_pt (x := 0) (y := 0) (f := false) Hg10.out rfl _ _ rfl rfl rfl ?_; intro u57 hn_ hb_; replace HA := Aside0.mk (HA.out.but hb_ (by have := HXg8.out; have := HXg10.out; omega)); replace HC2 := Aside0.mk (HC2.out.but hb_ (by have := HXg8.out; have := HXg10.out; omega)); replace Hg8 := Aside0.mk (Hg8.out.but hb_ (by have := HXg8.out; have := HXg10.out; omega)); replace Hg10 := Aside0.mk hn_; replace HB := Aside0.mk (bl_but HB.out hb_ HB.out.size (by have := HXg8.out; have := HXg10.out; omega)); replace HS := Aside0.mk (Nat.le_trans HS.out hb_.size); clear hn_ hb_))
 go_upto_region 8 with (first | ((with_reducible refine gate_dst (N := 28) rfl ?_); refine ld_pt HA.out rfl _ rfl rfl ?_) | ((with_reducible refine gate_dst (N := 29) rfl ?_); refine goesL_ (some 29) rfl rfl Try.func10 (by kernel_rfl) rfl #[ptV xa ya fa] rfl (by (try simp only [List.map_toArray, List.map_cons, List.map_nil]); first | done | rfl) ?_; (with_reducible refine (Oa.out _).mono ?_); rintro e u58 ⟨rfl, hb_⟩; refine ⟨_, rfl, ?_⟩; replace HA := Aside0.mk (HA.out.on hb_); replace HC2 := Aside0.mk (HC2.out.on hb_); replace Hg8 := Aside0.mk (Hg8.out.on hb_); replace Hg10 := Aside0.mk (Hg10.out.on hb_); replace HB := Aside0.mk (bl_on HB.out hb_ HB.out.size); replace HS := Aside0.mk (Nat.le_trans HS.out hb_.size); clear hb_) | ((with_reducible refine gate_dst (N := 33) rfl ?_); refine ld_ptG HC2.out (by rfl) _ rfl rfl ?_) | ((with_reducible refine gate_dst (N := 34) rfl ?_); refine wpList_step (fun K_ hK_ => ?_); refine goes_ Try.func10 (by kernel_rfl) rfl #[ptV xb yb fb] (by rfl) rfl rfl (by (try simp only [List.map_toArray, List.map_cons, List.map_nil]); first | done | rfl) ?_; (with_reducible refine (Ob.out _).mono ?_); rintro e u59 ⟨rfl, hb_⟩; refine ⟨_, rfl, ?_⟩; refine hK_ _ _ ?_; clear hK_ K_; replace HA := Aside0.mk (HA.out.on hb_); replace HC2 := Aside0.mk (HC2.out.on hb_); replace Hg8 := Aside0.mk (Hg8.out.on hb_); replace Hg10 := Aside0.mk (Hg10.out.on hb_); replace HB := Aside0.mk (bl_on HB.out hb_ HB.out.size); replace HS := Aside0.mk (Nat.le_trans HS.out hb_.size); clear hb_) | ((with_reducible refine gate_dst (N := 39) rfl ?_); refine wpList_step (fun K_ hK_ => ?_); refine goes_ Try.func14 (by kernel_rfl) rfl #[] (by rfl) rfl rfl (by (try simp only [List.map_toArray, List.map_cons, List.map_nil]); first | done | rfl) ?_; (with_reducible refine (K1.out _).mono ?_); rintro e u60 ⟨rfl, hb_⟩; refine ⟨_, rfl, ?_⟩; refine hK_ _ _ ?_; clear hK_ K_; replace HA := Aside0.mk (HA.out.on hb_); replace HC2 := Aside0.mk (HC2.out.on hb_); replace Hg8 := Aside0.mk (Hg8.out.on hb_); replace Hg10 := Aside0.mk (Hg10.out.on hb_); replace HB := Aside0.mk (bl_on HB.out hb_ HB.out.size); replace HS := Aside0.mk (Nat.le_trans HS.out hb_.size); clear hb_) | ((with_reducible refine gate_dst (N := 40) rfl ?_); refine wpList_step (fun K_ hK_ => ?_); refine goes_ Try.func15 (by kernel_rfl) rfl #[] (by rfl) rfl rfl (by (try simp only [List.map_toArray, List.map_cons, List.map_nil]); first | done | rfl) ?_; (with_reducible refine (K2.out _).mono ?_); rintro e u61 ⟨rfl, hb_⟩; refine ⟨_, rfl, ?_⟩; refine hK_ _ _ ?_; clear hK_ K_; replace HA := Aside0.mk (HA.out.on hb_); replace HC2 := Aside0.mk (HC2.out.on hb_); replace Hg8 := Aside0.mk (Hg8.out.on hb_); replace Hg10 := Aside0.mk (Hg10.out.on hb_); replace HB := Aside0.mk (bl_on HB.out hb_ HB.out.size); replace HS := Aside0.mk (Nat.le_trans HS.out hb_.size); clear hb_) | ((with_reducible refine gate_dst (N := 44) rfl ?_); refine wpList_step (fun K_ hK_ => ?_); refine goes_ Try.func16 (by kernel_rfl) rfl #[] (by rfl) rfl rfl (by (try simp only [List.map_toArray, List.map_cons, List.map_nil]); first | done | rfl) ?_; (with_reducible refine (K3.out _).mono ?_); rintro e u62 ⟨rfl, hb_⟩; refine ⟨_, rfl, ?_⟩; refine hK_ _ _ ?_; clear hK_ K_; replace HA := Aside0.mk (HA.out.on hb_); replace HC2 := Aside0.mk (HC2.out.on hb_); replace Hg8 := Aside0.mk (Hg8.out.on hb_); replace Hg10 := Aside0.mk (Hg10.out.on hb_); replace HB := Aside0.mk (bl_on HB.out hb_ HB.out.size); replace HS := Aside0.mk (Nat.le_trans HS.out hb_.size); clear hb_) | ((with_reducible refine gate_dst (N := 45) rfl ?_); refine wpList_step (fun K_ hK_ => ?_); refine goes_ Try.func17 (by kernel_rfl) rfl #[] (by rfl) rfl rfl (by (try simp only [List.map_toArray, List.map_cons, List.map_nil]); first | done | rfl) ?_; (with_reducible refine (K4.out _).mono ?_); rintro e u63 ⟨rfl, hb_⟩; refine ⟨_, rfl, ?_⟩; refine hK_ _ _ ?_; clear hK_ K_; replace HA := Aside0.mk (HA.out.on hb_); replace HC2 := Aside0.mk (HC2.out.on hb_); replace Hg8 := Aside0.mk (Hg8.out.on hb_); replace Hg10 := Aside0.mk (Hg10.out.on hb_); replace HB := Aside0.mk (bl_on HB.out hb_ HB.out.size); replace HS := Aside0.mk (Nat.le_trans HS.out hb_.size); clear hb_) | ((with_reducible refine gate_dst (N := 49) rfl ?_); refine wpList_step (fun K_ hK_ => ?_); refine goes_ Try.func18 (by kernel_rfl) rfl #[] (by rfl) rfl rfl (by (try simp only [List.map_toArray, List.map_cons, List.map_nil]); first | done | rfl) ?_; (with_reducible refine (K5.out _).mono ?_); rintro e u64 ⟨rfl, hb_⟩; refine ⟨_, rfl, ?_⟩; refine hK_ _ _ ?_; clear hK_ K_; replace HA := Aside0.mk (HA.out.on hb_); replace HC2 := Aside0.mk (HC2.out.on hb_); replace Hg8 := Aside0.mk (Hg8.out.on hb_); replace Hg10 := Aside0.mk (Hg10.out.on hb_); replace HB := Aside0.mk (bl_on HB.out hb_ HB.out.size); replace HS := Aside0.mk (Nat.le_trans HS.out hb_.size); clear hb_) | ((with_reducible refine gate_dst (N := 50) rfl ?_); refine wpList_step (fun K_ hK_ => ?_); refine goes_ Try.func19 (by kernel_rfl) rfl #[] (by rfl) rfl rfl (by (try simp only [List.map_toArray, List.map_cons, List.map_nil]); first | done | rfl) ?_; (with_reducible refine (K6.out _).mono ?_); rintro e u65 ⟨rfl, hb_⟩; refine ⟨_, rfl, ?_⟩; refine hK_ _ _ ?_; clear hK_ K_; replace HA := Aside0.mk (HA.out.on hb_); replace HC2 := Aside0.mk (HC2.out.on hb_); replace Hg8 := Aside0.mk (Hg8.out.on hb_); replace Hg10 := Aside0.mk (Hg10.out.on hb_); replace HB := Aside0.mk (bl_on HB.out hb_ HB.out.size); replace HS := Aside0.mk (Nat.le_trans HS.out hb_.size); clear hb_))
 refine start_ (n := 25) (S := fun w' => Below u65.heap.size u65 w') (ds := []) (bs 25 0) (by kernel_rfl) rfl rfl ((Below.refl _ _).drew) (fun hHeld => ?_)
 refine pu_ 0 53 (bs 25 1) ?_ ?_ ?_ ?_ ?_
 rotate_left
 ·intro w'
  go_simp
  with_reducible rfl
 rotate_left
 ·simp only [aS, i64_w, i32_w]
  rfl
 refine pu_ 1 54 (bs 25 3) ?_ ?_ ?_ ?_ ?_
 rotate_left
 ·intro w'
  go_simp
  with_reducible rfl
 rotate_left
 ·simp only [aS, i64_w, i32_w]
  rfl
 refine pv_ 2 55 (bs 25 7) ?_ ?_ ?_
 rotate_left
 ·simp only [aS, i64_w, i32_w]
  rfl
 refine pv_ 3 56 (bs 25 15) ?_ ?_ ?_
 rotate_left
 ·simp only [aS, i64_w, i32_w]
  rfl
 refine pv_ 4 57 (bs 25 31) ?_ ?_ ?_
 rotate_left
 ·simp only [aS, i64_w, i32_w]
  rfl
 refine pv_ 5 58 (bs 25 63) ?_ ?_ ?_
 rotate_left
 ·simp only [aS, i64_w, i32_w]
  rfl
 refine pv_ 6 59 (bs 25 127) ?_ ?_ ?_
 rotate_left
 ·simp only [aS, i64_w, i32_w]
  rfl
 refine pv_ 7 60 (bs 25 255) ?_ ?_ ?_
 rotate_left
 ·simp only [aS, i64_w, i32_w]
  rfl
 refine pv_ 8 61 (bs 25 511) ?_ ?_ ?_
 rotate_left
 ·simp only [aS, i64_w, i32_w]
  rfl
 refine pv_ 9 62 (bs 25 1023) ?_ ?_ ?_
 rotate_left
 ·simp only [aS, i64_w, i32_w]
  rfl
 refine pu_ 10 63 (bs 25 2047) ?_ ?_ ?_ ?_ ?_
 rotate_left
 ·intro w'
  go_simp
  with_reducible rfl
 rotate_left
 ·simp only [aS, i64_w, i32_w]
  rfl
 refine pu_ 11 64 (bs 25 4095) ?_ ?_ ?_ ?_ ?_
 rotate_left
 ·intro w'
  go_simp
  with_reducible rfl
 rotate_left
 ·simp only [aS, i64_w, i32_w]
  rfl
 refine pu_ 12 65 (bs 25 8191) ?_ ?_ ?_ ?_ ?_
 rotate_left
 ·intro w'
  go_simp
  with_reducible rfl
 rotate_left
 ·simp only [aS, i64_w, i32_w]
  rfl
 refine pu_ 13 66 (bs 25 16383) ?_ ?_ ?_ ?_ ?_
 rotate_left
 ·intro w'
  go_simp
  with_reducible rfl
 rotate_left
 ·simp only [aS, i64_w, i32_w]
  rfl
 refine pu_ 14 67 (bs 25 32767) ?_ ?_ ?_ ?_ ?_
 rotate_left
 ·intro w'
  go_simp
  with_reducible rfl
 rotate_left
 ·simp only [aS, i64_w, i32_w]
  rfl
 refine pu_ 15 68 (bs 25 65535) ?_ ?_ ?_ ?_ ?_
 rotate_left
 ·intro w'
  go_simp
  with_reducible rfl
 rotate_left
 ·simp only [aS, i64_w, i32_w]
  rfl
 refine pu_ 16 69 (bs 25 131071) ?_ ?_ ?_ ?_ ?_
 rotate_left
 ·intro w'
  go_simp
  with_reducible rfl
 rotate_left
 ·simp only [aS, i64_w, i32_w]
  rfl
 refine pu_ 17 70 (bs 25 262143) ?_ ?_ ?_ ?_ ?_
 rotate_left
 ·intro w'
  go_simp
  with_reducible rfl
 rotate_left
 ·simp only [aS, i64_w, i32_w]
  rfl
 refine pu_ 18 71 (bs 25 524287) ?_ ?_ ?_ ?_ ?_
 rotate_left
 ·intro w'
  go_simp
  with_reducible rfl
 rotate_left
 ·simp only [aS, i64_w, i32_w]
  rfl
 refine pu_ 20 73 (bs 25 1572863) ?_ ?_ ?_ ?_ ?_
 rotate_left
 ·intro w'
  go_simp
  with_reducible rfl
 rotate_left
 ·simp only [aS, i64_w, i32_w]
  rfl
 refine take_ (i := 19) (N := some 72) (a' := ?_) (bs 25 2097151) rfl rfl (by kernel_rfl) (fun _ _ _ h => h) (yieldsIf_load_mid (by rfl) 26 (.tmp 10) rfl (g10) 0 rfl ((pw 0 0 false)) _ (fun w' hS => (Hg10.out.on hS).range) rfl rfl (rfl)) hHeld ?_ ?_
 rotate_left
 ·simp only [aS, i64_w, i32_w]
  rfl
 refine pu_ 21 74 (bs 25 4194303) ?_ ?_ ?_ ?_ ?_
 rotate_left
 ·intro w'
  go_simp
  with_reducible rfl
 rotate_left
 ·simp only [aS, i64_w, i32_w]
  rfl
 refine pu_ 22 75 (bs 25 8388607) ?_ ?_ ?_ ?_ ?_
 rotate_left
 ·intro w'
  go_simp
  with_reducible rfl
 rotate_left
 ·simp only [aS, i64_w, i32_w]
  rfl
 refine pu_ 23 76 (bs 25 16777215) ?_ ?_ ?_ ?_ ?_
 rotate_left
 ·intro w'
  go_simp
  with_reducible rfl
 rotate_left
 ·simp only [aS, i64_w, i32_w]
  rfl
 refine pu_ 24 77 (bs 25 33554431) ?_ ?_ ?_ ?_ ?_
 rotate_left
 ·intro w'
  go_simp
  with_reducible rfl
 rotate_left
 ·simp only [aS, i64_w, i32_w]
  rfl
 refine done_ (by kernel_rfl) ?_
 replace HA := Aside0.mk (HA.out.on hHeld)
 replace HC2 := Aside0.mk (HC2.out.on hHeld)
 replace Hg8 := Aside0.mk (Hg8.out.on hHeld)
 replace Hg10 := Aside0.mk (Hg10.out.on hHeld)
 replace HB := Aside0.mk (bl_on HB.out hHeld HB.out.size)
 replace HS := Aside0.mk (Nat.le_trans HS.out hHeld.size)
 clear hHeld
 go_upto_region 11 with (fail)
 go_wp2_with (first | ((with_reducible refine gate_dst (N := 91) rfl ?_); refine ld_ptG Hg8.out (by rfl) _ rfl rfl ?_))
 go_ret
 exact ⟨rfl, HB.out⟩
set_option maxRecDepth 100000 in
set_option maxHeartbeats 8000000 in
theorem psm_false_false {xa ya xb yb : Nat} {fa fb : Bool} (na : xa < N256) (ma : ya < N256) (nb : xb < N256) (mb : yb < N256) (ha : onB xa ya fa = false) (hb : onB xb yb fb = false) (w : World) :
  Calls Try.prog 4 #[ptV xa ya fa, ptV xb yb fb] w fun e w' => e = .returned (.bool true) ∧ Below w.heap.size w w' := by
 have KU := Aside0.mk (fun (u : World) => up_calls u)
 have Ra := fun (u : World) => rOn_calls na ma fa u
 rw [ha] at Ra
 replace Ra := Aside0.mk Ra
 have Rb := fun (u : World) => rOn_calls nb mb fb u
 rw [hb] at Rb
 replace Rb := Aside0.mk Rb
 have Oa := fun (u : World) => pOn_calls na ma fa u
 rw [ha] at Oa
 replace Oa := Aside0.mk Oa
 have Ob := fun (u : World) => pOn_calls nb mb fb u
 rw [hb] at Ob
 replace Ob := Aside0.mk Ob
 have e1 : apV xa ya fa xb yb fb = .tuple #[ptV 0 0 false, .iface 38 (.int .i64 1)] := by unfold apV; rw [ha, hb]; rfl
 have KA := fun (u : World) => pAdd_calls (f1 := fa) (f2 := fb) na ma nb mb u
 rw [e1] at KA
 replace KA := Aside0.mk KA
 have e2 : ngV xa ya fa = .tuple #[ptV 0 0 false, .iface 38 (.int .i64 1)] := by unfold ngV; rw [ha]; rfl
 have KN := fun (u : World) => pNeg_calls fa na ma u
 rw [e2] at KN
 replace KN := Aside0.mk KN
 have q1 : ∀ w, (binOp .neq 26 (.agg (pw 0 0 false).toArray) (.agg #[.int .u64 0, .int .u64 0, .int .u64 0, .int .u64 0, .int .u64 0, .int .u64 0, .int .u64 0, .int .u64 0, .bool false])).run Try.prog w = .ok (.bool false) w := fun w => by
  have h := neq_pt (x := 0) (y := 0) (x' := 0) (y' := 0) N256_pos N256_pos N256_pos N256_pos false false w
  rw [decide_eq_true ⟨rfl, rfl, rfl⟩] at h
  exact h
 have gq1 : ∀ w x_ y_, (eqGuard .neq 26 x_ y_ (.agg (pw 0 0 false).toArray) (.agg #[.int .u64 0, .int .u64 0, .int .u64 0, .int .u64 0, .int .u64 0, .int .u64 0, .int .u64 0, .int .u64 0, .bool false])).run Try.prog w = .ok () w := fun w x_ y_ => eqg_pt .neq x_ y_ 0 0 0 0 false false w
 have q2 : ∀ w, (binOp .eql 26 (ptV 0 0 false) (.agg #[.int .u64 0, .int .u64 0, .int .u64 0, .int .u64 0, .int .u64 0, .int .u64 0, .int .u64 0, .int .u64 0, .bool false])).run Try.prog w = .ok (.bool true) w := fun w => by
  have h := eql_pt (x := 0) (y := 0) (x' := 0) (y' := 0) N256_pos N256_pos N256_pos N256_pos false false w
  rw [decide_eq_true ⟨rfl, rfl, rfl⟩] at h
  exact h
 have gq2 : ∀ w x_ y_, (eqGuard .eql 26 x_ y_ (ptV 0 0 false) (.agg #[.int .u64 0, .int .u64 0, .int .u64 0, .int .u64 0, .int .u64 0, .int .u64 0, .int .u64 0, .int .u64 0, .bool false])).run Try.prog w = .ok () w := fun w x_ y_ => eqg_pt .eql x_ y_ 0 0 0 0 false false w
 have qp : ∀ w, (binOp .neq 24 (numV pP) (numV pP)).run Try.prog w = .ok (.bool false) w := fun w => by
  have h := neq_num pP_lt pP_lt w
  rw [decide_eq_true rfl] at h
  exact h
 have qn : ∀ w, (binOp .neq 24 (numV nN) (numV nN)).run Try.prog w = .ok (.bool false) w := fun w => by
  have h := neq_num nN_lt nN_lt w
  rw [decide_eq_true rfl] at h
  exact h
 have qg : ∀ w, (binOp .neq 26 (ptV gX gY false) (ptV gX gY false)).run Try.prog w = .ok (.bool false) w := fun w => by
  have h := neq_pt gX_N gY_N gX_N gY_N false false w
  rw [decide_eq_true ⟨rfl, rfl, rfl⟩] at h
  exact h
 have gqg : ∀ w x_ y_, (eqGuard .neq 26 x_ y_ (ptV gX gY false) (ptV gX gY false)).run Try.prog w = .ok () w := fun w x_ y_ => eqg_pt .neq x_ y_ gX gY gX gY false false w
 have K1 := Aside0.mk (fun (u : World) => cp_calls u)
 have K2 := Aside0.mk (fun (u : World) => rcp_calls u)
 have K3 := Aside0.mk (fun (u : World) => cn_calls u)
 have K4 := Aside0.mk (fun (u : World) => rcn_calls u)
 have K5 := Aside0.mk (fun (u : World) => pbase_calls u)
 have K6 := Aside0.mk (fun (u : World) => rbase_calls u)
 clear na ma nb mb ha hb e1 e2
 go_enter Try.func4, Try.ntmps4
 go_upto_region 1 with (fail)
 refine wp_at (w2 := (World.alloc (World.alloc w (.cells (pw xa ya fa).toArray 26)) (.cells (pw xb yb fb).toArray 26))) rfl ?_
 obtain ⟨x_0, e_0, h_0, b_0, s_0⟩ := new_PtAt w xa ya fa
 obtain ⟨x_1, e_1, h_1, b_1, s_1⟩ := new_PtAt x_0 xb yb fb
 rw [e_0, e_1]
 rw [s_0] at h_1 s_1
 have HB : Aside0 (Below w.heap.size w x_1) := Aside0.mk (bl_both b_0 b_1)
 have HA : Aside0 (PtAt x_1 (w.heap.size) xa ya fa) := Aside0.mk (h_0.on b_1)
 have HC2 : Aside0 (PtAt x_1 (w.heap.size + 1) xb yb fb) := Aside0.mk h_1
 have HS : Aside0 (w.heap.size + 1 + 1 ≤ x_1.heap.size) := Aside0.mk (Nat.le_of_eq s_1.symm)
 clear e_0 h_0 b_0 s_0 e_1 h_1 b_1 s_1
 obtain ⟨w1, hw_⟩ : ∃ x, x = x_1 := ⟨_, rfl⟩
 subst hw_
 clear x_0
 go_upto_region 2 with (first | ((with_reducible refine gate_dst (N := 12) rfl ?_); refine goesL_ (some 12) rfl rfl Try.func9 (by kernel_rfl) rfl #[] rfl (by (try simp only [List.map_toArray, List.map_cons, List.map_nil]); first | done | rfl) ?_; (with_reducible refine (KU.out _).mono ?_); rintro e u66 ⟨rfl, hb_⟩; refine ⟨_, rfl, ?_⟩; replace HA := Aside0.mk (HA.out.on hb_); replace HC2 := Aside0.mk (HC2.out.on hb_); replace HB := Aside0.mk (bl_on HB.out hb_ HB.out.size); replace HS := Aside0.mk (Nat.le_trans HS.out hb_.size); clear hb_))
 go_upto_region 3 with (first | ((with_reducible refine gate_dst (N := 13) rfl ?_); refine ld_pt HA.out rfl _ rfl rfl ?_) | ((with_reducible refine gate_dst (N := 14) rfl ?_); refine goesL_ (some 14) rfl rfl Try.func13 (by kernel_rfl) rfl #[ptV xa ya fa] rfl (by (try simp only [List.map_toArray, List.map_cons, List.map_nil]); first | done | rfl) ?_; (with_reducible refine (Ra.out _).mono ?_); rintro e u67 ⟨rfl, hb_⟩; refine ⟨_, rfl, ?_⟩; replace HA := Aside0.mk (HA.out.on hb_); replace HC2 := Aside0.mk (HC2.out.on hb_); replace HB := Aside0.mk (bl_on HB.out hb_ HB.out.size); replace HS := Aside0.mk (Nat.le_trans HS.out hb_.size); clear hb_))
 go_upto_region 4 with (first | ((with_reducible refine gate_dst (N := 15) rfl ?_); refine ld_pt HC2.out rfl _ rfl rfl ?_) | ((with_reducible refine gate_dst (N := 16) rfl ?_); refine goesL_ (some 16) rfl rfl Try.func13 (by kernel_rfl) rfl #[ptV xb yb fb] rfl (by (try simp only [List.map_toArray, List.map_cons, List.map_nil]); first | done | rfl) ?_; (with_reducible refine (Rb.out _).mono ?_); rintro e u68 ⟨rfl, hb_⟩; refine ⟨_, rfl, ?_⟩; replace HA := Aside0.mk (HA.out.on hb_); replace HC2 := Aside0.mk (HC2.out.on hb_); replace HB := Aside0.mk (bl_on HB.out hb_ HB.out.size); replace HS := Aside0.mk (Nat.le_trans HS.out hb_.size); clear hb_))
 go_upto_region 5 with (first | ((with_reducible refine gate_dst (N := 18) rfl ?_); refine ld_pt HA.out rfl _ rfl rfl ?_) | ((with_reducible refine gate_dst (N := 19) rfl ?_); refine ld_pt HC2.out rfl _ rfl rfl ?_) | ((with_reducible refine gate_dst (N := 20) rfl ?_); refine goesL_ (some 20) rfl rfl Try.func11 (by kernel_rfl) rfl #[ptV xa ya fa, ptV xb yb fb] rfl (by (try simp only [List.map_toArray, List.map_cons, List.map_nil]); first | done | rfl) ?_; (with_reducible refine (KA.out _).mono ?_); rintro e u69 ⟨rfl, hb_⟩; refine ⟨_, rfl, ?_⟩; replace HA := Aside0.mk (HA.out.on hb_); replace HC2 := Aside0.mk (HC2.out.on hb_); replace HB := Aside0.mk (bl_on HB.out hb_ HB.out.size); replace HS := Aside0.mk (Nat.le_trans HS.out hb_.size); clear hb_) | ((with_reducible refine gate_dst (N := 8) rfl ?_); refine al_pt rfl _ rfl rfl ?_; intro g8 u70 eg_ hn_ hb_; have HXg8 : Aside0 (w.heap.size + 1 + 1 ≤ g8) := Aside0.mk (by rw [eg_]; exact HS.out); replace HA := Aside0.mk (HA.out.on hb_); replace HC2 := Aside0.mk (HC2.out.on hb_); replace HB := Aside0.mk (bl_on HB.out hb_ HB.out.size); replace HS := Aside0.mk (Nat.le_trans HS.out hb_.size); have Hg8 := Aside0.mk hn_; clear hn_ hb_ eg_) | ((with_reducible refine gate_st (y := .tmp 21) rfl ?_); (try simp only [aS]); refine st_pt (x := 0) (y := 0) (f := false) Hg8.out rfl _ _ rfl rfl rfl ?_; intro u71 hn_ hb_; replace HA := Aside0.mk (HA.out.but hb_ (by have := HXg8.out; omega)); replace HC2 := Aside0.mk (HC2.out.but hb_ (by have := HXg8.out; omega)); replace Hg8 := Aside0.mk hn_; replace HB := Aside0.mk (bl_but HB.out hb_ HB.out.size (by have := HXg8.out; omega)); replace HS := Aside0.mk (Nat.le_trans HS.out hb_.size); clear hn_ hb_))
 go_upto_region 6 with (first | ((with_reducible refine gate_dst (N := 24) rfl ?_); refine ld_pt HA.out rfl _ rfl rfl ?_) | ((with_reducible refine gate_dst (N := 25) rfl ?_); refine goesL_ (some 25) rfl rfl Try.func12 (by kernel_rfl) rfl #[ptV xa ya fa] rfl (by (try simp only [List.map_toArray, List.map_cons, List.map_nil]); first | done | rfl) ?_; (with_reducible refine (KN.out _).mono ?_); rintro e u72 ⟨rfl, hb_⟩; refine ⟨_, rfl, ?_⟩; replace HA := Aside0.mk (HA.out.on hb_); replace HC2 := Aside0.mk (HC2.out.on hb_); replace Hg8 := Aside0.mk (Hg8.out.on hb_); replace HB := Aside0.mk (bl_on HB.out hb_ HB.out.size); replace HS := Aside0.mk (Nat.le_trans HS.out hb_.size); clear hb_) | ((with_reducible refine gate_dst (N := 10) rfl ?_); refine al_pt rfl _ rfl rfl ?_; intro g10 u73 eg_ hn_ hb_; have HXg10 : Aside0 (w.heap.size + 1 + 1 ≤ g10 ∧ g8 < g10) := Aside0.mk (by rw [eg_]; exact ⟨HS.out, Hg8.out.size⟩); replace HA := Aside0.mk (HA.out.on hb_); replace HC2 := Aside0.mk (HC2.out.on hb_); replace Hg8 := Aside0.mk (Hg8.out.on hb_); replace HB := Aside0.mk (bl_on HB.out hb_ HB.out.size); replace HS := Aside0.mk (Nat.le_trans HS.out hb_.size); have Hg10 := Aside0.mk hn_; clear hn_ hb_ eg_) | ((with_reducible refine gate_st (y := .tmp 26) rfl ?_); (try simp only [aS]); refine st_pt (x := 0) (y := 0) (f := false) Hg10.out rfl _ _ rfl rfl rfl ?_; intro u74 hn_ hb_; replace HA := Aside0.mk (HA.out.but hb_ (by have := HXg8.out; have := HXg10.out; omega)); replace HC2 := Aside0.mk (HC2.out.but hb_ (by have := HXg8.out; have := HXg10.out; omega)); replace Hg8 := Aside0.mk (Hg8.out.but hb_ (by have := HXg8.out; have := HXg10.out; omega)); replace Hg10 := Aside0.mk hn_; replace HB := Aside0.mk (bl_but HB.out hb_ HB.out.size (by have := HXg8.out; have := HXg10.out; omega)); replace HS := Aside0.mk (Nat.le_trans HS.out hb_.size); clear hn_ hb_))
 go_upto_region 8 with (first | ((with_reducible refine gate_dst (N := 28) rfl ?_); refine ld_pt HA.out rfl _ rfl rfl ?_) | ((with_reducible refine gate_dst (N := 29) rfl ?_); refine goesL_ (some 29) rfl rfl Try.func10 (by kernel_rfl) rfl #[ptV xa ya fa] rfl (by (try simp only [List.map_toArray, List.map_cons, List.map_nil]); first | done | rfl) ?_; (with_reducible refine (Oa.out _).mono ?_); rintro e u75 ⟨rfl, hb_⟩; refine ⟨_, rfl, ?_⟩; replace HA := Aside0.mk (HA.out.on hb_); replace HC2 := Aside0.mk (HC2.out.on hb_); replace Hg8 := Aside0.mk (Hg8.out.on hb_); replace Hg10 := Aside0.mk (Hg10.out.on hb_); replace HB := Aside0.mk (bl_on HB.out hb_ HB.out.size); replace HS := Aside0.mk (Nat.le_trans HS.out hb_.size); clear hb_) | ((with_reducible refine gate_dst (N := 33) rfl ?_); refine ld_ptG HC2.out (by rfl) _ rfl rfl ?_) | ((with_reducible refine gate_dst (N := 34) rfl ?_); refine wpList_step (fun K_ hK_ => ?_); refine goes_ Try.func10 (by kernel_rfl) rfl #[ptV xb yb fb] (by rfl) rfl rfl (by (try simp only [List.map_toArray, List.map_cons, List.map_nil]); first | done | rfl) ?_; (with_reducible refine (Ob.out _).mono ?_); rintro e u76 ⟨rfl, hb_⟩; refine ⟨_, rfl, ?_⟩; refine hK_ _ _ ?_; clear hK_ K_; replace HA := Aside0.mk (HA.out.on hb_); replace HC2 := Aside0.mk (HC2.out.on hb_); replace Hg8 := Aside0.mk (Hg8.out.on hb_); replace Hg10 := Aside0.mk (Hg10.out.on hb_); replace HB := Aside0.mk (bl_on HB.out hb_ HB.out.size); replace HS := Aside0.mk (Nat.le_trans HS.out hb_.size); clear hb_) | ((with_reducible refine gate_dst (N := 39) rfl ?_); refine wpList_step (fun K_ hK_ => ?_); refine goes_ Try.func14 (by kernel_rfl) rfl #[] (by rfl) rfl rfl (by (try simp only [List.map_toArray, List.map_cons, List.map_nil]); first | done | rfl) ?_; (with_reducible refine (K1.out _).mono ?_); rintro e u77 ⟨rfl, hb_⟩; refine ⟨_, rfl, ?_⟩; refine hK_ _ _ ?_; clear hK_ K_; replace HA := Aside0.mk (HA.out.on hb_); replace HC2 := Aside0.mk (HC2.out.on hb_); replace Hg8 := Aside0.mk (Hg8.out.on hb_); replace Hg10 := Aside0.mk (Hg10.out.on hb_); replace HB := Aside0.mk (bl_on HB.out hb_ HB.out.size); replace HS := Aside0.mk (Nat.le_trans HS.out hb_.size); clear hb_) | ((with_reducible refine gate_dst (N := 40) rfl ?_); refine wpList_step (fun K_ hK_ => ?_); refine goes_ Try.func15 (by kernel_rfl) rfl #[] (by rfl) rfl rfl (by (try simp only [List.map_toArray, List.map_cons, List.map_nil]); first | done | rfl) ?_; (with_reducible refine (K2.out _).mono ?_); rintro e u78 ⟨rfl, hb_⟩; refine ⟨_, rfl, ?_⟩; refine hK_ _ _ ?_; clear hK_ K_; replace HA := Aside0.mk (HA.out.on hb_); replace HC2 := Aside0.mk (HC2.out.on hb_); replace Hg8 := Aside0.mk (Hg8.out.on hb_); replace Hg10 := Aside0.mk (Hg10.out.on hb_); replace HB := Aside0.mk (bl_on HB.out hb_ HB.out.size); replace HS := Aside0.mk (Nat.le_trans HS.out hb_.size); clear hb_) | ((with_reducible refine gate_dst (N := 44) rfl ?_); refine wpList_step (fun K_ hK_ => ?_); refine goes_ Try.func16 (by kernel_rfl) rfl #[] (by rfl) rfl rfl (by (try simp only [List.map_toArray, List.map_cons, List.map_nil]); first | done | rfl) ?_; (with_reducible refine (K3.out _).mono ?_); rintro e u79 ⟨rfl, hb_⟩; refine ⟨_, rfl, ?_⟩; refine hK_ _ _ ?_; clear hK_ K_; replace HA := Aside0.mk (HA.out.on hb_); replace HC2 := Aside0.mk (HC2.out.on hb_); replace Hg8 := Aside0.mk (Hg8.out.on hb_); replace Hg10 := Aside0.mk (Hg10.out.on hb_); replace HB := Aside0.mk (bl_on HB.out hb_ HB.out.size); replace HS := Aside0.mk (Nat.le_trans HS.out hb_.size); clear hb_) | ((with_reducible refine gate_dst (N := 45) rfl ?_); refine wpList_step (fun K_ hK_ => ?_); refine goes_ Try.func17 (by kernel_rfl) rfl #[] (by rfl) rfl rfl (by (try simp only [List.map_toArray, List.map_cons, List.map_nil]); first | done | rfl) ?_; (with_reducible refine (K4.out _).mono ?_); rintro e u80 ⟨rfl, hb_⟩; refine ⟨_, rfl, ?_⟩; refine hK_ _ _ ?_; clear hK_ K_; replace HA := Aside0.mk (HA.out.on hb_); replace HC2 := Aside0.mk (HC2.out.on hb_); replace Hg8 := Aside0.mk (Hg8.out.on hb_); replace Hg10 := Aside0.mk (Hg10.out.on hb_); replace HB := Aside0.mk (bl_on HB.out hb_ HB.out.size); replace HS := Aside0.mk (Nat.le_trans HS.out hb_.size); clear hb_) | ((with_reducible refine gate_dst (N := 49) rfl ?_); refine wpList_step (fun K_ hK_ => ?_); refine goes_ Try.func18 (by kernel_rfl) rfl #[] (by rfl) rfl rfl (by (try simp only [List.map_toArray, List.map_cons, List.map_nil]); first | done | rfl) ?_; (with_reducible refine (K5.out _).mono ?_); rintro e u81 ⟨rfl, hb_⟩; refine ⟨_, rfl, ?_⟩; refine hK_ _ _ ?_; clear hK_ K_; replace HA := Aside0.mk (HA.out.on hb_); replace HC2 := Aside0.mk (HC2.out.on hb_); replace Hg8 := Aside0.mk (Hg8.out.on hb_); replace Hg10 := Aside0.mk (Hg10.out.on hb_); replace HB := Aside0.mk (bl_on HB.out hb_ HB.out.size); replace HS := Aside0.mk (Nat.le_trans HS.out hb_.size); clear hb_) | ((with_reducible refine gate_dst (N := 50) rfl ?_); refine wpList_step (fun K_ hK_ => ?_); refine goes_ Try.func19 (by kernel_rfl) rfl #[] (by rfl) rfl rfl (by (try simp only [List.map_toArray, List.map_cons, List.map_nil]); first | done | rfl) ?_; (with_reducible refine (K6.out _).mono ?_); rintro e u82 ⟨rfl, hb_⟩; refine ⟨_, rfl, ?_⟩; refine hK_ _ _ ?_; clear hK_ K_; replace HA := Aside0.mk (HA.out.on hb_); replace HC2 := Aside0.mk (HC2.out.on hb_); replace Hg8 := Aside0.mk (Hg8.out.on hb_); replace Hg10 := Aside0.mk (Hg10.out.on hb_); replace HB := Aside0.mk (bl_on HB.out hb_ HB.out.size); replace HS := Aside0.mk (Nat.le_trans HS.out hb_.size); clear hb_))
 refine start_ (n := 25) (S := fun w' => Below u82.heap.size u82 w') (ds := []) (bs 25 0) (by kernel_rfl) rfl rfl ((Below.refl _ _).drew) (fun hHeld => ?_)
 refine pu_ 0 53 (bs 25 1) ?_ ?_ ?_ ?_ ?_
 rotate_left
 ·intro w'
  go_simp
  with_reducible rfl
 rotate_left
 ·simp only [aS, i64_w, i32_w]
  rfl
 refine pu_ 1 54 (bs 25 3) ?_ ?_ ?_ ?_ ?_
 rotate_left
 ·intro w'
  go_simp
  with_reducible rfl
 rotate_left
 ·simp only [aS, i64_w, i32_w]
  rfl
 refine pv_ 2 55 (bs 25 7) ?_ ?_ ?_
 rotate_left
 ·simp only [aS, i64_w, i32_w]
  rfl
 refine pv_ 3 56 (bs 25 15) ?_ ?_ ?_
 rotate_left
 ·simp only [aS, i64_w, i32_w]
  rfl
 refine pv_ 4 57 (bs 25 31) ?_ ?_ ?_
 rotate_left
 ·simp only [aS, i64_w, i32_w]
  rfl
 refine pv_ 5 58 (bs 25 63) ?_ ?_ ?_
 rotate_left
 ·simp only [aS, i64_w, i32_w]
  rfl
 refine pv_ 6 59 (bs 25 127) ?_ ?_ ?_
 rotate_left
 ·simp only [aS, i64_w, i32_w]
  rfl
 refine pv_ 7 60 (bs 25 255) ?_ ?_ ?_
 rotate_left
 ·simp only [aS, i64_w, i32_w]
  rfl
 refine pv_ 8 61 (bs 25 511) ?_ ?_ ?_
 rotate_left
 ·simp only [aS, i64_w, i32_w]
  rfl
 refine pv_ 9 62 (bs 25 1023) ?_ ?_ ?_
 rotate_left
 ·simp only [aS, i64_w, i32_w]
  rfl
 refine pu_ 10 63 (bs 25 2047) ?_ ?_ ?_ ?_ ?_
 rotate_left
 ·intro w'
  go_simp
  with_reducible rfl
 rotate_left
 ·simp only [aS, i64_w, i32_w]
  rfl
 refine pu_ 11 64 (bs 25 4095) ?_ ?_ ?_ ?_ ?_
 rotate_left
 ·intro w'
  go_simp
  with_reducible rfl
 rotate_left
 ·simp only [aS, i64_w, i32_w]
  rfl
 refine pu_ 12 65 (bs 25 8191) ?_ ?_ ?_ ?_ ?_
 rotate_left
 ·intro w'
  go_simp
  with_reducible rfl
 rotate_left
 ·simp only [aS, i64_w, i32_w]
  rfl
 refine pu_ 13 66 (bs 25 16383) ?_ ?_ ?_ ?_ ?_
 rotate_left
 ·intro w'
  go_simp
  with_reducible rfl
 rotate_left
 ·simp only [aS, i64_w, i32_w]
  rfl
 refine pu_ 14 67 (bs 25 32767) ?_ ?_ ?_ ?_ ?_
 rotate_left
 ·intro w'
  go_simp
  with_reducible rfl
 rotate_left
 ·simp only [aS, i64_w, i32_w]
  rfl
 refine pu_ 15 68 (bs 25 65535) ?_ ?_ ?_ ?_ ?_
 rotate_left
 ·intro w'
  go_simp
  with_reducible rfl
 rotate_left
 ·simp only [aS, i64_w, i32_w]
  rfl
 refine pu_ 16 69 (bs 25 131071) ?_ ?_ ?_ ?_ ?_
 rotate_left
 ·intro w'
  go_simp
  with_reducible rfl
 rotate_left
 ·simp only [aS, i64_w, i32_w]
  rfl
 refine pu_ 17 70 (bs 25 262143) ?_ ?_ ?_ ?_ ?_
 rotate_left
 ·intro w'
  go_simp
  with_reducible rfl
 rotate_left
 ·simp only [aS, i64_w, i32_w]
  rfl
 refine pu_ 18 71 (bs 25 524287) ?_ ?_ ?_ ?_ ?_
 rotate_left
 ·intro w'
  go_simp
  with_reducible rfl
 rotate_left
 ·simp only [aS, i64_w, i32_w]
  rfl
 refine pu_ 20 73 (bs 25 1572863) ?_ ?_ ?_ ?_ ?_
 rotate_left
 ·intro w'
  go_simp
  with_reducible rfl
 rotate_left
 ·simp only [aS, i64_w, i32_w]
  rfl
 refine take_ (i := 19) (N := some 72) (a' := ?_) (bs 25 2097151) rfl rfl (by kernel_rfl) (fun _ _ _ h => h) (yieldsIf_load_mid (by rfl) 26 (.tmp 10) rfl (g10) 0 rfl ((pw 0 0 false)) _ (fun w' hS => (Hg10.out.on hS).range) rfl rfl (rfl)) hHeld ?_ ?_
 rotate_left
 ·simp only [aS, i64_w, i32_w]
  rfl
 refine pu_ 21 74 (bs 25 4194303) ?_ ?_ ?_ ?_ ?_
 rotate_left
 ·intro w'
  go_simp
  with_reducible rfl
 rotate_left
 ·simp only [aS, i64_w, i32_w]
  rfl
 refine pu_ 22 75 (bs 25 8388607) ?_ ?_ ?_ ?_ ?_
 rotate_left
 ·intro w'
  go_simp
  with_reducible rfl
 rotate_left
 ·simp only [aS, i64_w, i32_w]
  rfl
 refine pu_ 23 76 (bs 25 16777215) ?_ ?_ ?_ ?_ ?_
 rotate_left
 ·intro w'
  go_simp
  with_reducible rfl
 rotate_left
 ·simp only [aS, i64_w, i32_w]
  rfl
 refine pu_ 24 77 (bs 25 33554431) ?_ ?_ ?_ ?_ ?_
 rotate_left
 ·intro w'
  go_simp
  with_reducible rfl
 rotate_left
 ·simp only [aS, i64_w, i32_w]
  rfl
 refine done_ (by kernel_rfl) ?_
 replace HA := Aside0.mk (HA.out.on hHeld)
 replace HC2 := Aside0.mk (HC2.out.on hHeld)
 replace Hg8 := Aside0.mk (Hg8.out.on hHeld)
 replace Hg10 := Aside0.mk (Hg10.out.on hHeld)
 replace HB := Aside0.mk (bl_on HB.out hHeld HB.out.size)
 replace HS := Aside0.mk (Nat.le_trans HS.out hHeld.size)
 clear hHeld
 go_upto_region 11 with (fail)
 go_wp2_with (first | ((with_reducible refine gate_dst (N := 91) rfl ?_); refine ld_ptG Hg8.out (by rfl) _ rfl rfl ?_))
 go_ret
 exact ⟨rfl, HB.out⟩
theorem psums_walk {xa ya xb yb : Nat} {fa fb : Bool} (w0 : xa < N256 ∧ ya < N256) (w1 : xb < N256 ∧ yb < N256) {w : World} :
  Calls Try.prog 4 #[ptV xa ya fa, ptV xb yb fb] w fun e w' => e = .returned (.bool true) ∧ Below w.heap.size w w' := by
 cases ha : onB xa ya fa
 ·cases hb : onB xb yb fb
  ·exact psm_false_false w0.1 w0.2 w1.1 w1.2 ha hb w
  ·exact psm_false_true w0.1 w0.2 w1.1 w1.2 ha hb w
 ·cases hb : onB xb yb fb
  ·rw [on_vP ha]
   exact psm_true_false (on_spec ha) w1.1 w1.2 hb w
  ·rw [on_vP ha, on_vP hb]
   exact psm_true_true (on_spec ha) (on_spec hb) w
end Go.Proofs.Ytkfjhndofbmhoaa
