/- What the proof of PointBytes is made of, part 34. -/
import Derived.Test.YtkfjhndofbmhoaaZPointBytes32
import Derived.Test.YtkfjhndofbmhoaaZPointBytes33
import Derived.Test.YtkfjhndofbmhoaaZPointBytes2
import Derived.Test.YtkfjhndofbmhoaaZPointBytesh
namespace Go.Proofs.Ytkfjhndofbmhoaa
open Go.RowKit Go.Proofs.Ytkfjhndofbmhoaa.Arr Go.Proofs.YtkfjhndofbmhoaaW.PrintWords Go.Proofs.YtkfjhndofbmhoaaW.PrintLast Go.Proofs.YtkfjhndofbmhoaaW.PrintMore
attribute [local go_sem high] eqg_num eqg_num0
set_option linter.unusedVariables false
set_option linter.unusedSimpArgs false
theorem cv_own {op : Oper} {a : Act} {base : Nat} {A : Option Addr} {n c : Nat} {l : List Nat} {w : World} (x : Operand) (h : BL w base (.slice A n c) l) (ho : op.op = .convert 47 9 x) (hx : a.eval x = .slice A n c) : (execOp a.eval op).run Try.prog w = .ok (.value (.string (strOfNums (cN l)))) w := by
 unfold execOp
 rw [ho]
 simp only [hx]
 have e : ∀ m : Sem Value, m.run Try.prog w = .ok (.string (strOfNums (cN l))) w → (m >>= fun v => pure (Next.value v)).run Try.prog w = .ok (.value (.string (strOfNums (cN l)))) w := fun m h => by
  simp only [Sem.run_bind, h, Result.andThen_ok]
  rfl
 exact e _ (own_string rfl rfl rfl h)
theorem neq_code (a b : Int) (w : World) : (binOp .neq 30 (.iface 38 (.int .i64 a)) (.iface 38 (.int .i64 b))).run Try.prog w = .ok (.bool (!(a == b))) w := by
 have hu : Try.prog.underlying 30 = some (.interface ((match Try.prog.underlying 30 with | some (.interface ms) => ms | _ => #[]))) := by kernel_rfl
 have hn : Try.prog.underlying 38 = some (.int .i64) := by kernel_rfl
 obtain ⟨i, hi, hc⟩ : ∃ i, Try.prog.info? 38 = some i ∧ i.comparable = true := by
  have h : (Try.prog.info? 38).map (·.comparable) = some true := by kernel_rfl
  cases hq : Try.prog.info? 38 with
  | none => rw [hq] at h; simp at h
  | some i => rw [hq] at h; exact ⟨i, rfl, by simpa using h⟩
 simp only [binOp]
 simp [Op.equal, Op.maxDepth, run_equalIn_iface_int w 9998 a b hu hn hi hc]
attribute [local go_sem high] eql_code neq_code
set_option maxRecDepth 100000 in
set_option maxHeartbeats 8000000 in
theorem pb_true_false_is {x y : Nat} (hx : x < N256) (hy : y < N256) (hon : onB x y false = true) {A : Option Addr} {l : List Nat} {c : Nat} (w : World) (h0 : BAt w A l) (hc : l.length ≤ c) (hp : (l.length = 64 ∧ onB (b2x l) (b2y l) false = true)) :
  Calls Try.prog 8 #[ptV x y false, .slice A l.length c] w fun e w' => e = .returned (.bool true) ∧ Below w.heap.size w w' := by
 have e1 : prV l = .tuple #[ptV (b2x l) (b2y l) false, .nilIface] := by unfold prV; rw [if_pos hp]
 have e2 : rrV l = .tuple #[ptV (b2x l) (b2y l) false, .bool true] := by unfold rrV; rw [if_pos hp]
 have hX : b2x l < N256 := lt_N (onB_lt hp.2).1
 have hY : b2y l < N256 := lt_N (onB_lt hp.2).2
 have hq := fun w => eql_pt hX hY hX hY false false w
 rw [decide_eq_true ⟨rfl, rfl, rfl⟩] at hq
 have hg := fun w x_ y_ => eqg_pt .eql x_ y_ (b2x l) (b2y l) (b2x l) (b2y l) false false w
 have K1 := Aside0.mk (fun (u : World) => up_calls u)
 have K2 := Aside0.mk (fun (u : World) => pbytes_true_false hx hy hon u)
 have K3 := Aside0.mk (fun (u : World) => rOn_calls hx hy false u)
 have K4 := Aside0.mk (fun (u : World) => rpbytes_calls hx hy false u)
 have K5 := Aside0.mk (fun (u : World) (h : Below w.heap.size w u) => pparse_calls u (BAt.below h0 h (Nat.le_refl _)) hc)
 have K6 := Aside0.mk (fun (u : World) (h : Below w.heap.size w u) => rparse_calls u (BAt.below h0 h (Nat.le_refl _)) hc)
 rw [e1] at K5
 rw [e2] at K6
 rw [hon] at K3
 clear e1 e2 hp hX hY
 generalize b2x l = X at *
 generalize b2y l = Y at *
 clear hx hy hon h0 hc
 go_enter Try.func8, Try.ntmps8
 go_upto_region 1 with (fail)
 refine wp_at (w2 := (World.alloc w (.cells (pw x y false).toArray 26))) rfl ?_
 obtain ⟨x_0, e_0, h_0, b_0, s_0⟩ := new_PtAt w x y false
 rw [e_0]
 have HB : Aside0 (Below w.heap.size w x_0) := Aside0.mk b_0
 have HA : Aside0 (PtAt x_0 (w.heap.size) x y false) := Aside0.mk h_0
 have HS : Aside0 (w.heap.size + 1 ≤ x_0.heap.size) := Aside0.mk (Nat.le_of_eq s_0.symm)
 clear e_0 h_0 b_0 s_0
 obtain ⟨w1, hw_⟩ : ∃ x, x = x_0 := ⟨_, rfl⟩
 subst hw_
 go_upto_region 2 with (first | ((with_reducible refine gate_dst (N := 13) rfl ?_); refine goesL_ (some 13) rfl rfl Try.func9 (by kernel_rfl) rfl #[] rfl (by (try simp only [List.map_toArray, List.map_cons, List.map_nil]); first | done | rfl) ?_; (with_reducible refine (K1.out _).mono ?_); rintro e u1 ⟨rfl, hb_⟩; refine ⟨_, rfl, ?_⟩; replace HA := Aside0.mk (HA.out.on hb_); replace HB := Aside0.mk (bl_on HB.out hb_ HB.out.size); replace HS := Aside0.mk (Nat.le_trans HS.out hb_.size); clear hb_))
 go_upto_region 3 with (first | ((with_reducible refine gate_dst (N := 15) rfl ?_); refine ld_pt HA.out rfl _ rfl rfl ?_) | ((with_reducible refine gate_dst (N := 16) rfl ?_); refine goesL_ (some 16) rfl rfl Try.func25 (by kernel_rfl) rfl #[ptV x y false] rfl (by (try simp only [List.map_toArray, List.map_cons, List.map_nil]); first | done | rfl) ?_; (with_reducible refine (K2.out _).mono ?_); rintro e u2 ⟨A7, c7, rfl, ho7_, hb_⟩; refine ⟨_, rfl, ?_⟩; replace HA := Aside0.mk (HA.out.on hb_); replace HB := Aside0.mk (bl_on HB.out hb_ HB.out.size); replace HS := Aside0.mk (Nat.le_trans HS.out hb_.size); have HT := Aside0.mk ho7_; clear ho7_ hb_))
 go_upto_region 4 with (first | ((with_reducible refine gate_dst (N := 19) rfl ?_); refine ld_pt HA.out rfl _ rfl rfl ?_) | ((with_reducible refine gate_dst (N := 20) rfl ?_); refine goesL_ (some 20) rfl rfl Try.func13 (by kernel_rfl) rfl #[ptV x y false] rfl (by (try simp only [List.map_toArray, List.map_cons, List.map_nil]); first | done | rfl) ?_; (with_reducible refine (K3.out _).mono ?_); rintro e u3 ⟨rfl, hb_⟩; refine ⟨_, rfl, ?_⟩; replace HA := Aside0.mk (HA.out.on hb_); replace HT := Aside0.mk (HT.out.on hb_); replace HB := Aside0.mk (bl_on HB.out hb_ HB.out.size); replace HS := Aside0.mk (Nat.le_trans HS.out hb_.size); clear hb_))
 have HCV : Aside0 (∀ W : World, Below u3.heap.size u3 W → (convert 47 9 (.slice A7 64 c7)).run Try.prog W = .ok (.string (strOfNums (cN (byt2 x y)))) W) := Aside0.mk (fun W hb => own_string rfl rfl rfl (HT.out.on hb))
 refine start_ (n := 36) (S := fun w' => Below u3.heap.size u3 w' ∧ w'.cell? ⟨w.heap.size, 8, none⟩ = some (.bool false) ∧ (convert 47 9 (.slice A7 64 c7)).run Try.prog w' = .ok (.string (strOfNums (cN (byt2 x y)))) w') (ds := []) (bs 36 0) (by kernel_rfl) rfl rfl ⟨(Below.refl _ _).drew, HA.out.far, HCV.out _ (Below.refl _ _).drew⟩ (fun hHeld => ?_)
 refine pu_ 0 21 (bs 36 1) ?_ ?_ ?_ ?_ ?_
 rotate_left
 ·intro w'
  go_simp
  with_reducible rfl
 rotate_left
 ·simp only [aS, i64_w, i32_w]
  rfl
 refine pu_ 1 22 (bs 36 3) ?_ ?_ ?_ ?_ ?_
 rotate_left
 ·intro w'
  go_simp
  with_reducible rfl
 rotate_left
 ·simp only [aS, i64_w, i32_w]
  rfl
 refine pu_ 2 23 (bs 36 7) ?_ ?_ ?_ ?_ ?_
 rotate_left
 ·intro w'
  go_simp
  with_reducible rfl
 rotate_left
 ·simp only [aS, i64_w, i32_w]
  rfl
 refine tk_ 3 24 (bs 36 15) ?_ ?_ hHeld ?_ ?_ ?_
 rotate_left
 ·rintro w' ⟨s0, s1, s2⟩
  go_simp
  with_reducible rfl
 rotate_left
 ·simp only [aS, i64_w, i32_w]
  rfl
 refine pu_ 4 25 (bs 36 31) ?_ ?_ ?_ ?_ ?_
 rotate_left
 ·intro w'
  go_simp
  with_reducible rfl
 rotate_left
 ·simp only [aS, i64_w, i32_w]
  rfl
 refine pu_ 5 26 (bs 36 63) ?_ ?_ ?_ ?_ ?_
 rotate_left
 ·intro w'
  go_simp
  with_reducible rfl
 rotate_left
 ·simp only [aS, i64_w, i32_w]
  rfl
 refine pu_ 6 27 (bs 36 127) ?_ ?_ ?_ ?_ ?_
 rotate_left
 ·intro w'
  go_simp
  with_reducible rfl
 rotate_left
 ·simp only [aS, i64_w, i32_w]
  rfl
 refine pu_ 7 28 (bs 36 255) ?_ ?_ ?_ ?_ ?_
 rotate_left
 ·intro w'
  go_simp
  with_reducible rfl
 rotate_left
 ·simp only [aS, i64_w, i32_w]
  rfl
 refine pu_ 8 29 (bs 36 511) ?_ ?_ ?_ ?_ ?_
 rotate_left
 ·intro w'
  go_simp
  with_reducible rfl
 rotate_left
 ·simp only [aS, i64_w, i32_w]
  rfl
 refine pu_ 9 30 (bs 36 1023) ?_ ?_ ?_ ?_ ?_
 rotate_left
 ·intro w'
  go_simp
  with_reducible rfl
 rotate_left
 ·simp only [aS, i64_w, i32_w]
  rfl
 refine pu_ 10 31 (bs 36 2047) ?_ ?_ ?_ ?_ ?_
 rotate_left
 ·intro w'
  go_simp
  with_reducible rfl
 rotate_left
 ·simp only [aS, i64_w, i32_w]
  rfl
 refine tk_ 11 32 (bs 36 4095) ?_ ?_ hHeld ?_ ?_ ?_
 rotate_left
 ·rintro w' ⟨s0, s1, s2⟩
  go_simp
  with_reducible rfl
 rotate_left
 ·simp only [aS, i64_w, i32_w]
  rfl
 refine take_ (i := 12) (N := some 33) (a' := ?_) (bs 36 8191) rfl rfl (by kernel_rfl) (fun _ _ _ h => h) (yieldsIf_load_mid (by rfl) 26 (.tmp 2) rfl (w.heap.size) 0 rfl ((pw x y false)) _ (fun w' hS => (HA.out.on hS.1).range) rfl rfl (rfl)) hHeld ?_ ?_
 rotate_left
 ·simp only [aS, i64_w, i32_w]
  rfl
 refine on1_ 13 (some 34) (bs 36 16383) rfl fun K hK => ?_
 refine gs_ Try.func26 #[ptV x y false] rfl ?_
 with_reducible refine (K4.out _).mono ?_
 rintro e u88 ⟨A8, c8, rfl, ho8, hb8⟩
 refine ⟨_, rfl, ?_⟩
 refine hK.out _ _ ⟨bl_on hHeld.1 hb8 hHeld.1.size, (HA.out.on (bl_on hHeld.1 hb8 hHeld.1.size)).far, HCV.out _ (bl_on hHeld.1 hb8 hHeld.1.size)⟩ (fun hHeld => ?_)
 clear hK K
 refine nm_ (some 34) ?_
 refine on1_ 14 (some 35) (bs 36 32767) rfl fun K hK => ?_
 refine value_ (w1 := _) (v := .string (strOfNums (cN (byt2 x y)))) (by rfl) rfl (cv_own (.tmp 34) ho8 rfl rfl) ?_
 refine hK.out _ _ ⟨hHeld.1, hHeld.2.1, hHeld.2.2⟩ (fun hHeld => ?_)
 clear hK K
 refine nm_ (some 35) ?_
 refine pu_ 15 36 (bs 36 65535) ?_ ?_ ?_ ?_ ?_
 rotate_left
 ·intro w'
  go_simp
  with_reducible rfl
 rotate_left
 ·simp only [aS, i64_w, i32_w]
  rfl
 refine pu_ 16 37 (bs 36 131071) ?_ ?_ ?_ ?_ ?_
 rotate_left
 ·intro w'
  go_simp
  with_reducible rfl
 rotate_left
 ·simp only [aS, i64_w, i32_w]
  rfl
 refine pu_ 17 38 (bs 36 262143) ?_ ?_ ?_ ?_ ?_
 rotate_left
 ·intro w'
  go_simp
  with_reducible rfl
 rotate_left
 ·simp only [aS, i64_w, i32_w]
  rfl
 refine pu_ 18 39 (bs 36 524287) ?_ ?_ ?_ ?_ ?_
 rotate_left
 ·intro w'
  go_simp
  with_reducible rfl
 rotate_left
 ·simp only [aS, i64_w, i32_w]
  rfl
 refine pu_ 19 40 (bs 36 1048575) ?_ ?_ ?_ ?_ ?_
 rotate_left
 ·intro w'
  go_simp
  with_reducible rfl
 rotate_left
 ·simp only [aS, i64_w, i32_w]
  rfl
 refine pu_ 20 41 (bs 36 2097151) ?_ ?_ ?_ ?_ ?_
 rotate_left
 ·intro w'
  go_simp
  with_reducible rfl
 rotate_left
 ·simp only [aS, i64_w, i32_w]
  rfl
 refine pu_ 21 42 (bs 36 4194303) ?_ ?_ ?_ ?_ ?_
 rotate_left
 ·intro w'
  go_simp
  with_reducible rfl
 rotate_left
 ·simp only [aS, i64_w, i32_w]
  rfl
 refine pu_ 22 43 (bs 36 8388607) ?_ ?_ ?_ ?_ ?_
 rotate_left
 ·intro w'
  go_simp
  with_reducible rfl
 rotate_left
 ·simp only [aS, i64_w, i32_w]
  rfl
 refine tk_ 23 44 (bs 36 16777215) ?_ ?_ hHeld ?_ ?_ ?_
 rotate_left
 ·rintro w' ⟨s0, s1, s2⟩
  go_simp
  with_reducible rfl
 rotate_left
 ·simp only [aS, i64_w, i32_w]
  rfl
 refine pu_ 24 45 (bs 36 33554431) ?_ ?_ ?_ ?_ ?_
 rotate_left
 ·intro w'
  go_simp
  with_reducible rfl
 rotate_left
 ·simp only [aS, i64_w, i32_w]
  rfl
 refine pu_ 25 46 (bs 36 67108863) ?_ ?_ ?_ ?_ ?_
 rotate_left
 ·intro w'
  go_simp
  with_reducible rfl
 rotate_left
 ·simp only [aS, i64_w, i32_w]
  rfl
 refine pv_ 26 47 (bs 36 134217727) ?_ ?_ ?_
 rotate_left
 ·simp only [aS, i64_w, i32_w]
  rfl
 refine pv_ 27 48 (bs 36 268435455) ?_ ?_ ?_
 rotate_left
 ·simp only [aS, i64_w, i32_w]
  rfl
 refine pv_ 28 49 (bs 36 536870911) ?_ ?_ ?_
 rotate_left
 ·simp only [aS, i64_w, i32_w]
  rfl
 refine pv_ 29 50 (bs 36 1073741823) ?_ ?_ ?_
 rotate_left
 ·simp only [aS, i64_w, i32_w]
  rfl
 refine pv_ 30 51 (bs 36 2147483647) ?_ ?_ ?_
 rotate_left
 ·simp only [aS, i64_w, i32_w]
  rfl
 refine pv_ 31 52 (bs 36 4294967295) ?_ ?_ ?_
 rotate_left
 ·simp only [aS, i64_w, i32_w]
  rfl
 refine pv_ 32 53 (bs 36 8589934591) ?_ ?_ ?_
 rotate_left
 ·simp only [aS, i64_w, i32_w]
  rfl
 refine pv_ 33 54 (bs 36 17179869183) ?_ ?_ ?_
 rotate_left
 ·simp only [aS, i64_w, i32_w]
  rfl
 refine pu_ 34 55 (bs 36 34359738367) ?_ ?_ ?_ ?_ ?_
 rotate_left
 ·intro w'
  go_simp
  with_reducible rfl
 rotate_left
 ·simp only [aS, i64_w, i32_w]
  rfl
 refine pu_ 35 56 (bs 36 68719476735) ?_ ?_ ?_ ?_ ?_
 rotate_left
 ·intro w'
  go_simp
  with_reducible rfl
 rotate_left
 ·simp only [aS, i64_w, i32_w]
  rfl
 refine done_ (by kernel_rfl) ?_
 have HB9 := hHeld.1
 replace HA := Aside0.mk (HA.out.on HB9)
 replace HB := Aside0.mk (bl_on HB.out HB9 HB.out.size)
 replace HS := Aside0.mk (Nat.le_trans HS.out HB9.size)
 clear HB9 hHeld HCV HT ho8 hb8
 go_upto_region 7 with (first | ((with_reducible refine gate_dst (N := 59) rfl ?_); refine goesL_ (some 59) rfl rfl Try.func27 (by kernel_rfl) rfl #[.slice A l.length c] rfl (by (try simp only [List.map_toArray, List.map_cons, List.map_nil]); first | done | rfl) ?_; (with_reducible refine (K5.out _ HB.out).mono ?_); rintro e u4 ⟨rfl, hb_⟩; refine ⟨_, rfl, ?_⟩; replace HA := Aside0.mk (HA.out.on hb_); replace HB := Aside0.mk (bl_on HB.out hb_ HB.out.size); replace HS := Aside0.mk (Nat.le_trans HS.out hb_.size); clear hb_) | ((with_reducible refine gate_dst (N := 9) rfl ?_); refine al_pt rfl _ rfl rfl ?_; intro g9 u5 eg_ hn_ hb_; have HXg9 : Aside0 (w.heap.size + 1 ≤ g9) := Aside0.mk (by rw [eg_]; exact HS.out); replace HA := Aside0.mk (HA.out.on hb_); replace HB := Aside0.mk (bl_on HB.out hb_ HB.out.size); replace HS := Aside0.mk (Nat.le_trans HS.out hb_.size); have Hg9 := Aside0.mk hn_; clear hn_ hb_ eg_) | ((with_reducible refine gate_st (y := .tmp 60) rfl ?_); (try simp only [aS]); refine st_pt (x := X) (y := Y) (f := false) Hg9.out rfl _ _ rfl rfl rfl ?_; intro u6 hn_ hb_; replace HA := Aside0.mk (HA.out.but hb_ (by have := HXg9.out; omega)); replace Hg9 := Aside0.mk hn_; replace HB := Aside0.mk (bl_but HB.out hb_ HB.out.size (by have := HXg9.out; omega)); replace HS := Aside0.mk (Nat.le_trans HS.out hb_.size); clear hn_ hb_))
 go_upto_region 8 with (first | ((with_reducible refine gate_dst (N := 64) rfl ?_); refine goesL_ (some 64) rfl rfl Try.func28 (by kernel_rfl) rfl #[.slice A l.length c] rfl (by (try simp only [List.map_toArray, List.map_cons, List.map_nil]); first | done | rfl) ?_; (with_reducible refine (K6.out _ HB.out).mono ?_); rintro e u7 ⟨rfl, hb_⟩; refine ⟨_, rfl, ?_⟩; replace HA := Aside0.mk (HA.out.on hb_); replace Hg9 := Aside0.mk (Hg9.out.on hb_); replace HB := Aside0.mk (bl_on HB.out hb_ HB.out.size); replace HS := Aside0.mk (Nat.le_trans HS.out hb_.size); clear hb_) | ((with_reducible refine gate_dst (N := 11) rfl ?_); refine al_pt rfl _ rfl rfl ?_; intro g11 u8 eg_ hn_ hb_; have HXg11 : Aside0 (w.heap.size + 1 ≤ g11 ∧ g9 < g11) := Aside0.mk (by rw [eg_]; exact ⟨HS.out, Hg9.out.size⟩); replace HA := Aside0.mk (HA.out.on hb_); replace Hg9 := Aside0.mk (Hg9.out.on hb_); replace HB := Aside0.mk (bl_on HB.out hb_ HB.out.size); replace HS := Aside0.mk (Nat.le_trans HS.out hb_.size); have Hg11 := Aside0.mk hn_; clear hn_ hb_ eg_) | ((with_reducible refine gate_st (y := .tmp 65) rfl ?_); (try simp only [aS]); refine st_pt (x := X) (y := Y) (f := false) Hg11.out rfl _ _ rfl rfl rfl ?_; intro u9 hn_ hb_; replace HA := Aside0.mk (HA.out.but hb_ (by have := HXg9.out; have := HXg11.out; omega)); replace Hg9 := Aside0.mk (Hg9.out.but hb_ (by have := HXg9.out; have := HXg11.out; omega)); replace Hg11 := Aside0.mk hn_; replace HB := Aside0.mk (bl_but HB.out hb_ HB.out.size (by have := HXg9.out; have := HXg11.out; omega)); replace HS := Aside0.mk (Nat.le_trans HS.out hb_.size); clear hn_ hb_))
 go_upto_region 10 with (fail)
 go_wp2_with (first | ((with_reducible refine gate_dst (N := 86) rfl ?_); refine ld_ptG Hg9.out (by rfl) _ rfl rfl ?_) | ((with_reducible refine gate_dst (N := 87) rfl ?_); refine ld_ptG Hg11.out (by rfl) _ rfl rfl ?_))
 go_ret
 exact ⟨rfl, HB.out⟩
set_option maxRecDepth 100000 in
set_option maxHeartbeats 8000000 in
theorem pb_true_false_no {x y : Nat} (hx : x < N256) (hy : y < N256) (hon : onB x y false = true) {A : Option Addr} {l : List Nat} {c : Nat} (w : World) (h0 : BAt w A l) (hc : l.length ≤ c) (hp : ¬(l.length = 64 ∧ onB (b2x l) (b2y l) false = true)) :
  Calls Try.prog 8 #[ptV x y false, .slice A l.length c] w fun e w' => e = .returned (.bool true) ∧ Below w.heap.size w w' := by
 have e1 : prV l = .tuple #[ptV 0 0 false, .iface 38 (.int .i64 2)] := by unfold prV; rw [if_neg hp]
 have e2 : rrV l = .tuple #[ptV 0 0 false, .bool false] := by unfold rrV; rw [if_neg hp]
 have hq : ∀ w, (binOp .eql 26 (ptV 0 0 false) (.agg #[.int .u64 0, .int .u64 0, .int .u64 0, .int .u64 0, .int .u64 0, .int .u64 0, .int .u64 0, .int .u64 0, .bool false])).run Try.prog w = .ok (.bool true) w := fun w =>
  eql_pt (x := 0) (y := 0) (x' := 0) (y' := 0) N256_pos N256_pos N256_pos N256_pos false false w
 have hg : ∀ w x_ y_, (eqGuard .eql 26 x_ y_ (ptV 0 0 false) (.agg #[.int .u64 0, .int .u64 0, .int .u64 0, .int .u64 0, .int .u64 0, .int .u64 0, .int .u64 0, .int .u64 0, .bool false])).run Try.prog w = .ok () w := fun w x_ y_ => eqg_pt .eql x_ y_ 0 0 0 0 false false w
 have K1 := Aside0.mk (fun (u : World) => up_calls u)
 have K2 := Aside0.mk (fun (u : World) => pbytes_true_false hx hy hon u)
 have K3 := Aside0.mk (fun (u : World) => rOn_calls hx hy false u)
 have K4 := Aside0.mk (fun (u : World) => rpbytes_calls hx hy false u)
 have K5 := Aside0.mk (fun (u : World) (h : Below w.heap.size w u) => pparse_calls u (BAt.below h0 h (Nat.le_refl _)) hc)
 have K6 := Aside0.mk (fun (u : World) (h : Below w.heap.size w u) => rparse_calls u (BAt.below h0 h (Nat.le_refl _)) hc)
 rw [e1] at K5
 rw [e2] at K6
 rw [hon] at K3
 clear e1 e2 hp
 clear hx hy hon h0 hc
 go_enter Try.func8, Try.ntmps8
 go_upto_region 1 with (fail)
 refine wp_at (w2 := (World.alloc w (.cells (pw x y false).toArray 26))) rfl ?_
 obtain ⟨x_0, e_0, h_0, b_0, s_0⟩ := new_PtAt w x y false
 rw [e_0]
 have HB : Aside0 (Below w.heap.size w x_0) := Aside0.mk b_0
 have HA : Aside0 (PtAt x_0 (w.heap.size) x y false) := Aside0.mk h_0
 have HS : Aside0 (w.heap.size + 1 ≤ x_0.heap.size) := Aside0.mk (Nat.le_of_eq s_0.symm)
 clear e_0 h_0 b_0 s_0
 obtain ⟨w1, hw_⟩ : ∃ x, x = x_0 := ⟨_, rfl⟩
 subst hw_
 go_upto_region 2 with (first | ((with_reducible refine gate_dst (N := 13) rfl ?_); refine goesL_ (some 13) rfl rfl Try.func9 (by kernel_rfl) rfl #[] rfl (by (try simp only [List.map_toArray, List.map_cons, List.map_nil]); first | done | rfl) ?_; (with_reducible refine (K1.out _).mono ?_); rintro e u10 ⟨rfl, hb_⟩; refine ⟨_, rfl, ?_⟩; replace HA := Aside0.mk (HA.out.on hb_); replace HB := Aside0.mk (bl_on HB.out hb_ HB.out.size); replace HS := Aside0.mk (Nat.le_trans HS.out hb_.size); clear hb_))
 go_upto_region 3 with (first | ((with_reducible refine gate_dst (N := 15) rfl ?_); refine ld_pt HA.out rfl _ rfl rfl ?_) | ((with_reducible refine gate_dst (N := 16) rfl ?_); refine goesL_ (some 16) rfl rfl Try.func25 (by kernel_rfl) rfl #[ptV x y false] rfl (by (try simp only [List.map_toArray, List.map_cons, List.map_nil]); first | done | rfl) ?_; (with_reducible refine (K2.out _).mono ?_); rintro e u11 ⟨A7, c7, rfl, ho7_, hb_⟩; refine ⟨_, rfl, ?_⟩; replace HA := Aside0.mk (HA.out.on hb_); replace HB := Aside0.mk (bl_on HB.out hb_ HB.out.size); replace HS := Aside0.mk (Nat.le_trans HS.out hb_.size); have HT := Aside0.mk ho7_; clear ho7_ hb_))
 go_upto_region 4 with (first | ((with_reducible refine gate_dst (N := 19) rfl ?_); refine ld_pt HA.out rfl _ rfl rfl ?_) | ((with_reducible refine gate_dst (N := 20) rfl ?_); refine goesL_ (some 20) rfl rfl Try.func13 (by kernel_rfl) rfl #[ptV x y false] rfl (by (try simp only [List.map_toArray, List.map_cons, List.map_nil]); first | done | rfl) ?_; (with_reducible refine (K3.out _).mono ?_); rintro e u12 ⟨rfl, hb_⟩; refine ⟨_, rfl, ?_⟩; replace HA := Aside0.mk (HA.out.on hb_); replace HT := Aside0.mk (HT.out.on hb_); replace HB := Aside0.mk (bl_on HB.out hb_ HB.out.size); replace HS := Aside0.mk (Nat.le_trans HS.out hb_.size); clear hb_))
 have HCV : Aside0 (∀ W : World, Below u12.heap.size u12 W → (convert 47 9 (.slice A7 64 c7)).run Try.prog W = .ok (.string (strOfNums (cN (byt2 x y)))) W) := Aside0.mk (fun W hb => own_string rfl rfl rfl (HT.out.on hb))
 refine start_ (n := 36) (S := fun w' => Below u12.heap.size u12 w' ∧ w'.cell? ⟨w.heap.size, 8, none⟩ = some (.bool false) ∧ (convert 47 9 (.slice A7 64 c7)).run Try.prog w' = .ok (.string (strOfNums (cN (byt2 x y)))) w') (ds := []) (bs 36 0) (by kernel_rfl) rfl rfl ⟨(Below.refl _ _).drew, HA.out.far, HCV.out _ (Below.refl _ _).drew⟩ (fun hHeld => ?_)
 refine pu_ 0 21 (bs 36 1) ?_ ?_ ?_ ?_ ?_
 rotate_left
 ·intro w'
  go_simp
  with_reducible rfl
 rotate_left
 ·simp only [aS, i64_w, i32_w]
  rfl
 refine pu_ 1 22 (bs 36 3) ?_ ?_ ?_ ?_ ?_
 rotate_left
 ·intro w'
  go_simp
  with_reducible rfl
 rotate_left
 ·simp only [aS, i64_w, i32_w]
  rfl
 refine pu_ 2 23 (bs 36 7) ?_ ?_ ?_ ?_ ?_
 rotate_left
 ·intro w'
  go_simp
  with_reducible rfl
 rotate_left
 ·simp only [aS, i64_w, i32_w]
  rfl
 refine tk_ 3 24 (bs 36 15) ?_ ?_ hHeld ?_ ?_ ?_
 rotate_left
 ·rintro w' ⟨s0, s1, s2⟩
  go_simp
  with_reducible rfl
 rotate_left
 ·simp only [aS, i64_w, i32_w]
  rfl
 refine pu_ 4 25 (bs 36 31) ?_ ?_ ?_ ?_ ?_
 rotate_left
 ·intro w'
  go_simp
  with_reducible rfl
 rotate_left
 ·simp only [aS, i64_w, i32_w]
  rfl
 refine pu_ 5 26 (bs 36 63) ?_ ?_ ?_ ?_ ?_
 rotate_left
 ·intro w'
  go_simp
  with_reducible rfl
 rotate_left
 ·simp only [aS, i64_w, i32_w]
  rfl
 refine pu_ 6 27 (bs 36 127) ?_ ?_ ?_ ?_ ?_
 rotate_left
 ·intro w'
  go_simp
  with_reducible rfl
 rotate_left
 ·simp only [aS, i64_w, i32_w]
  rfl
 refine pu_ 7 28 (bs 36 255) ?_ ?_ ?_ ?_ ?_
 rotate_left
 ·intro w'
  go_simp
  with_reducible rfl
 rotate_left
 ·simp only [aS, i64_w, i32_w]
  rfl
 refine pu_ 8 29 (bs 36 511) ?_ ?_ ?_ ?_ ?_
 rotate_left
 ·intro w'
  go_simp
  with_reducible rfl
 rotate_left
 ·simp only [aS, i64_w, i32_w]
  rfl
 refine pu_ 9 30 (bs 36 1023) ?_ ?_ ?_ ?_ ?_
 rotate_left
 ·intro w'
  go_simp
  with_reducible rfl
 rotate_left
 ·simp only [aS, i64_w, i32_w]
  rfl
 refine pu_ 10 31 (bs 36 2047) ?_ ?_ ?_ ?_ ?_
 rotate_left
 ·intro w'
  go_simp
  with_reducible rfl
 rotate_left
 ·simp only [aS, i64_w, i32_w]
  rfl
 refine tk_ 11 32 (bs 36 4095) ?_ ?_ hHeld ?_ ?_ ?_
 rotate_left
 ·rintro w' ⟨s0, s1, s2⟩
  go_simp
  with_reducible rfl
 rotate_left
 ·simp only [aS, i64_w, i32_w]
  rfl
 refine take_ (i := 12) (N := some 33) (a' := ?_) (bs 36 8191) rfl rfl (by kernel_rfl) (fun _ _ _ h => h) (yieldsIf_load_mid (by rfl) 26 (.tmp 2) rfl (w.heap.size) 0 rfl ((pw x y false)) _ (fun w' hS => (HA.out.on hS.1).range) rfl rfl (rfl)) hHeld ?_ ?_
 rotate_left
 ·simp only [aS, i64_w, i32_w]
  rfl
 refine on1_ 13 (some 34) (bs 36 16383) rfl fun K hK => ?_
 refine gs_ Try.func26 #[ptV x y false] rfl ?_
 with_reducible refine (K4.out _).mono ?_
 rintro e u88 ⟨A8, c8, rfl, ho8, hb8⟩
 refine ⟨_, rfl, ?_⟩
 refine hK.out _ _ ⟨bl_on hHeld.1 hb8 hHeld.1.size, (HA.out.on (bl_on hHeld.1 hb8 hHeld.1.size)).far, HCV.out _ (bl_on hHeld.1 hb8 hHeld.1.size)⟩ (fun hHeld => ?_)
 clear hK K
 refine nm_ (some 34) ?_
 refine on1_ 14 (some 35) (bs 36 32767) rfl fun K hK => ?_
 refine value_ (w1 := _) (v := .string (strOfNums (cN (byt2 x y)))) (by rfl) rfl (cv_own (.tmp 34) ho8 rfl rfl) ?_
 refine hK.out _ _ ⟨hHeld.1, hHeld.2.1, hHeld.2.2⟩ (fun hHeld => ?_)
 clear hK K
 refine nm_ (some 35) ?_
 refine pu_ 15 36 (bs 36 65535) ?_ ?_ ?_ ?_ ?_
 rotate_left
 ·intro w'
  go_simp
  with_reducible rfl
 rotate_left
 ·simp only [aS, i64_w, i32_w]
  rfl
 refine pu_ 16 37 (bs 36 131071) ?_ ?_ ?_ ?_ ?_
 rotate_left
 ·intro w'
  go_simp
  with_reducible rfl
 rotate_left
 ·simp only [aS, i64_w, i32_w]
  rfl
 refine pu_ 17 38 (bs 36 262143) ?_ ?_ ?_ ?_ ?_
 rotate_left
 ·intro w'
  go_simp
  with_reducible rfl
 rotate_left
 ·simp only [aS, i64_w, i32_w]
  rfl
 refine pu_ 18 39 (bs 36 524287) ?_ ?_ ?_ ?_ ?_
 rotate_left
 ·intro w'
  go_simp
  with_reducible rfl
 rotate_left
 ·simp only [aS, i64_w, i32_w]
  rfl
 refine pu_ 19 40 (bs 36 1048575) ?_ ?_ ?_ ?_ ?_
 rotate_left
 ·intro w'
  go_simp
  with_reducible rfl
 rotate_left
 ·simp only [aS, i64_w, i32_w]
  rfl
 refine pu_ 20 41 (bs 36 2097151) ?_ ?_ ?_ ?_ ?_
 rotate_left
 ·intro w'
  go_simp
  with_reducible rfl
 rotate_left
 ·simp only [aS, i64_w, i32_w]
  rfl
 refine pu_ 21 42 (bs 36 4194303) ?_ ?_ ?_ ?_ ?_
 rotate_left
 ·intro w'
  go_simp
  with_reducible rfl
 rotate_left
 ·simp only [aS, i64_w, i32_w]
  rfl
 refine pu_ 22 43 (bs 36 8388607) ?_ ?_ ?_ ?_ ?_
 rotate_left
 ·intro w'
  go_simp
  with_reducible rfl
 rotate_left
 ·simp only [aS, i64_w, i32_w]
  rfl
 refine tk_ 23 44 (bs 36 16777215) ?_ ?_ hHeld ?_ ?_ ?_
 rotate_left
 ·rintro w' ⟨s0, s1, s2⟩
  go_simp
  with_reducible rfl
 rotate_left
 ·simp only [aS, i64_w, i32_w]
  rfl
 refine pu_ 24 45 (bs 36 33554431) ?_ ?_ ?_ ?_ ?_
 rotate_left
 ·intro w'
  go_simp
  with_reducible rfl
 rotate_left
 ·simp only [aS, i64_w, i32_w]
  rfl
 refine pu_ 25 46 (bs 36 67108863) ?_ ?_ ?_ ?_ ?_
 rotate_left
 ·intro w'
  go_simp
  with_reducible rfl
 rotate_left
 ·simp only [aS, i64_w, i32_w]
  rfl
 refine pv_ 26 47 (bs 36 134217727) ?_ ?_ ?_
 rotate_left
 ·simp only [aS, i64_w, i32_w]
  rfl
 refine pv_ 27 48 (bs 36 268435455) ?_ ?_ ?_
 rotate_left
 ·simp only [aS, i64_w, i32_w]
  rfl
 refine pv_ 28 49 (bs 36 536870911) ?_ ?_ ?_
 rotate_left
 ·simp only [aS, i64_w, i32_w]
  rfl
 refine pv_ 29 50 (bs 36 1073741823) ?_ ?_ ?_
 rotate_left
 ·simp only [aS, i64_w, i32_w]
  rfl
 refine pv_ 30 51 (bs 36 2147483647) ?_ ?_ ?_
 rotate_left
 ·simp only [aS, i64_w, i32_w]
  rfl
 refine pv_ 31 52 (bs 36 4294967295) ?_ ?_ ?_
 rotate_left
 ·simp only [aS, i64_w, i32_w]
  rfl
 refine pv_ 32 53 (bs 36 8589934591) ?_ ?_ ?_
 rotate_left
 ·simp only [aS, i64_w, i32_w]
  rfl
 refine pv_ 33 54 (bs 36 17179869183) ?_ ?_ ?_
 rotate_left
 ·simp only [aS, i64_w, i32_w]
  rfl
 refine pu_ 34 55 (bs 36 34359738367) ?_ ?_ ?_ ?_ ?_
 rotate_left
 ·intro w'
  go_simp
  with_reducible rfl
 rotate_left
 ·simp only [aS, i64_w, i32_w]
  rfl
 refine pu_ 35 56 (bs 36 68719476735) ?_ ?_ ?_ ?_ ?_
 rotate_left
 ·intro w'
  go_simp
  with_reducible rfl
 rotate_left
 ·simp only [aS, i64_w, i32_w]
  rfl
 refine done_ (by kernel_rfl) ?_
 have HB9 := hHeld.1
 replace HA := Aside0.mk (HA.out.on HB9)
 replace HB := Aside0.mk (bl_on HB.out HB9 HB.out.size)
 replace HS := Aside0.mk (Nat.le_trans HS.out HB9.size)
 clear HB9 hHeld HCV HT ho8 hb8
 go_upto_region 7 with (first | ((with_reducible refine gate_dst (N := 59) rfl ?_); refine goesL_ (some 59) rfl rfl Try.func27 (by kernel_rfl) rfl #[.slice A l.length c] rfl (by (try simp only [List.map_toArray, List.map_cons, List.map_nil]); first | done | rfl) ?_; (with_reducible refine (K5.out _ HB.out).mono ?_); rintro e u13 ⟨rfl, hb_⟩; refine ⟨_, rfl, ?_⟩; replace HA := Aside0.mk (HA.out.on hb_); replace HB := Aside0.mk (bl_on HB.out hb_ HB.out.size); replace HS := Aside0.mk (Nat.le_trans HS.out hb_.size); clear hb_) | ((with_reducible refine gate_dst (N := 9) rfl ?_); refine al_pt rfl _ rfl rfl ?_; intro g9 u14 eg_ hn_ hb_; have HXg9 : Aside0 (w.heap.size + 1 ≤ g9) := Aside0.mk (by rw [eg_]; exact HS.out); replace HA := Aside0.mk (HA.out.on hb_); replace HB := Aside0.mk (bl_on HB.out hb_ HB.out.size); replace HS := Aside0.mk (Nat.le_trans HS.out hb_.size); have Hg9 := Aside0.mk hn_; clear hn_ hb_ eg_) | ((with_reducible refine gate_st (y := .tmp 60) rfl ?_); (try simp only [aS]); refine st_pt (x := 0) (y := 0) (f := false) Hg9.out rfl _ _ rfl rfl rfl ?_; intro u15 hn_ hb_; replace HA := Aside0.mk (HA.out.but hb_ (by have := HXg9.out; omega)); replace Hg9 := Aside0.mk hn_; replace HB := Aside0.mk (bl_but HB.out hb_ HB.out.size (by have := HXg9.out; omega)); replace HS := Aside0.mk (Nat.le_trans HS.out hb_.size); clear hn_ hb_))
 go_upto_region 8 with (first | ((with_reducible refine gate_dst (N := 64) rfl ?_); refine goesL_ (some 64) rfl rfl Try.func28 (by kernel_rfl) rfl #[.slice A l.length c] rfl (by (try simp only [List.map_toArray, List.map_cons, List.map_nil]); first | done | rfl) ?_; (with_reducible refine (K6.out _ HB.out).mono ?_); rintro e u16 ⟨rfl, hb_⟩; refine ⟨_, rfl, ?_⟩; replace HA := Aside0.mk (HA.out.on hb_); replace Hg9 := Aside0.mk (Hg9.out.on hb_); replace HB := Aside0.mk (bl_on HB.out hb_ HB.out.size); replace HS := Aside0.mk (Nat.le_trans HS.out hb_.size); clear hb_) | ((with_reducible refine gate_dst (N := 11) rfl ?_); refine al_pt rfl _ rfl rfl ?_; intro g11 u17 eg_ hn_ hb_; have HXg11 : Aside0 (w.heap.size + 1 ≤ g11 ∧ g9 < g11) := Aside0.mk (by rw [eg_]; exact ⟨HS.out, Hg9.out.size⟩); replace HA := Aside0.mk (HA.out.on hb_); replace Hg9 := Aside0.mk (Hg9.out.on hb_); replace HB := Aside0.mk (bl_on HB.out hb_ HB.out.size); replace HS := Aside0.mk (Nat.le_trans HS.out hb_.size); have Hg11 := Aside0.mk hn_; clear hn_ hb_ eg_) | ((with_reducible refine gate_st (y := .tmp 65) rfl ?_); (try simp only [aS]); refine st_pt (x := 0) (y := 0) (f := false) Hg11.out rfl _ _ rfl rfl rfl ?_; intro u18 hn_ hb_; replace HA := Aside0.mk (HA.out.but hb_ (by have := HXg9.out; have := HXg11.out; omega)); replace Hg9 := Aside0.mk (Hg9.out.but hb_ (by have := HXg9.out; have := HXg11.out; omega)); replace Hg11 := Aside0.mk hn_; replace HB := Aside0.mk (bl_but HB.out hb_ HB.out.size (by have := HXg9.out; have := HXg11.out; omega)); replace HS := Aside0.mk (Nat.le_trans HS.out hb_.size); clear hn_ hb_))
 go_upto_region 9 with (fail)
 go_wp2_with (first | ((with_reducible refine gate_dst (N := 76) rfl ?_); refine ld_ptG Hg9.out (by rfl) _ rfl rfl ?_))
 go_ret
 exact ⟨rfl, HB.out⟩
set_option maxRecDepth 100000 in
set_option maxHeartbeats 8000000 in
theorem pb_true_true_is {x y : Nat} (hx : x < N256) (hy : y < N256) (hon : onB x y true = true) {A : Option Addr} {l : List Nat} {c : Nat} (w : World) (h0 : BAt w A l) (hc : l.length ≤ c) (hp : (l.length = 64 ∧ onB (b2x l) (b2y l) false = true)) :
  Calls Try.prog 8 #[ptV x y true, .slice A l.length c] w fun e w' => e = .returned (.bool true) ∧ Below w.heap.size w w' := by
 have e1 : prV l = .tuple #[ptV (b2x l) (b2y l) false, .nilIface] := by unfold prV; rw [if_pos hp]
 have e2 : rrV l = .tuple #[ptV (b2x l) (b2y l) false, .bool true] := by unfold rrV; rw [if_pos hp]
 have hX : b2x l < N256 := lt_N (onB_lt hp.2).1
 have hY : b2y l < N256 := lt_N (onB_lt hp.2).2
 have hq := fun w => eql_pt hX hY hX hY false false w
 rw [decide_eq_true ⟨rfl, rfl, rfl⟩] at hq
 have hg := fun w x_ y_ => eqg_pt .eql x_ y_ (b2x l) (b2y l) (b2x l) (b2y l) false false w
 have K1 := Aside0.mk (fun (u : World) => up_calls u)
 have K2 := Aside0.mk (fun (u : World) => pbytes_true_true hx hy hon u)
 have K3 := Aside0.mk (fun (u : World) => rOn_calls hx hy true u)
 have K4 := Aside0.mk (fun (u : World) (h : Below w.heap.size w u) => pparse_calls u (BAt.below h0 h (Nat.le_refl _)) hc)
 have K5 := Aside0.mk (fun (u : World) (h : Below w.heap.size w u) => rparse_calls u (BAt.below h0 h (Nat.le_refl _)) hc)
 rw [e1] at K4
 rw [e2] at K5
 rw [hon] at K3
 clear e1 e2 hp hX hY
 generalize b2x l = X at *
 generalize b2y l = Y at *
 clear hx hy hon h0 hc
 go_enter Try.func8, Try.ntmps8
 go_upto_region 1 with (fail)
 refine wp_at (w2 := (World.alloc w (.cells (pw x y true).toArray 26))) rfl ?_
 obtain ⟨x_0, e_0, h_0, b_0, s_0⟩ := new_PtAt w x y true
 rw [e_0]
 have HB : Aside0 (Below w.heap.size w x_0) := Aside0.mk b_0
 have HA : Aside0 (PtAt x_0 (w.heap.size) x y true) := Aside0.mk h_0
 have HS : Aside0 (w.heap.size + 1 ≤ x_0.heap.size) := Aside0.mk (Nat.le_of_eq s_0.symm)
 clear e_0 h_0 b_0 s_0
 obtain ⟨w1, hw_⟩ : ∃ x, x = x_0 := ⟨_, rfl⟩
 subst hw_
 go_upto_region 2 with (first | ((with_reducible refine gate_dst (N := 13) rfl ?_); refine goesL_ (some 13) rfl rfl Try.func9 (by kernel_rfl) rfl #[] rfl (by (try simp only [List.map_toArray, List.map_cons, List.map_nil]); first | done | rfl) ?_; (with_reducible refine (K1.out _).mono ?_); rintro e u19 ⟨rfl, hb_⟩; refine ⟨_, rfl, ?_⟩; replace HA := Aside0.mk (HA.out.on hb_); replace HB := Aside0.mk (bl_on HB.out hb_ HB.out.size); replace HS := Aside0.mk (Nat.le_trans HS.out hb_.size); clear hb_))
 go_upto_region 3 with (first | ((with_reducible refine gate_dst (N := 15) rfl ?_); refine ld_pt HA.out rfl _ rfl rfl ?_) | ((with_reducible refine gate_dst (N := 16) rfl ?_); refine goesL_ (some 16) rfl rfl Try.func25 (by kernel_rfl) rfl #[ptV x y true] rfl (by (try simp only [List.map_toArray, List.map_cons, List.map_nil]); first | done | rfl) ?_; (with_reducible refine (K2.out _).mono ?_); rintro e u20 ⟨rfl, hb_⟩; refine ⟨_, rfl, ?_⟩; replace HA := Aside0.mk (HA.out.on hb_); replace HB := Aside0.mk (bl_on HB.out hb_ HB.out.size); replace HS := Aside0.mk (Nat.le_trans HS.out hb_.size); clear hb_))
 go_upto_region 4 with (first | ((with_reducible refine gate_dst (N := 19) rfl ?_); refine ld_pt HA.out rfl _ rfl rfl ?_) | ((with_reducible refine gate_dst (N := 20) rfl ?_); refine goesL_ (some 20) rfl rfl Try.func13 (by kernel_rfl) rfl #[ptV x y true] rfl (by (try simp only [List.map_toArray, List.map_cons, List.map_nil]); first | done | rfl) ?_; (with_reducible refine (K3.out _).mono ?_); rintro e u21 ⟨rfl, hb_⟩; refine ⟨_, rfl, ?_⟩; replace HA := Aside0.mk (HA.out.on hb_); replace HB := Aside0.mk (bl_on HB.out hb_ HB.out.size); replace HS := Aside0.mk (Nat.le_trans HS.out hb_.size); clear hb_))
 refine start_ (n := 36) (S := fun w' => Below u21.heap.size u21 w' ∧ w'.cell? ⟨w.heap.size, 8, none⟩ = some (.bool true)) (ds := []) (bs 36 0) (by kernel_rfl) rfl rfl ⟨(Below.refl _ _).drew, HA.out.far⟩ (fun hHeld => ?_)
 refine pu_ 0 21 (bs 36 1) ?_ ?_ ?_ ?_ ?_
 rotate_left
 ·intro w'
  go_simp
  with_reducible rfl
 rotate_left
 ·simp only [aS, i64_w, i32_w]
  rfl
 refine pu_ 1 22 (bs 36 3) ?_ ?_ ?_ ?_ ?_
 rotate_left
 ·intro w'
  go_simp
  with_reducible rfl
 rotate_left
 ·simp only [aS, i64_w, i32_w]
  rfl
 refine pu_ 2 23 (bs 36 7) ?_ ?_ ?_ ?_ ?_
 rotate_left
 ·intro w'
  go_simp
  with_reducible rfl
 rotate_left
 ·simp only [aS, i64_w, i32_w]
  rfl
 refine tk_ 3 24 (bs 36 15) ?_ ?_ hHeld ?_ ?_ ?_
 rotate_left
 ·rintro w' ⟨s0, s1⟩
  go_simp
  with_reducible rfl
 rotate_left
 ·simp only [aS, i64_w, i32_w]
  rfl
 refine pu_ 4 25 (bs 36 31) ?_ ?_ ?_ ?_ ?_
 rotate_left
 ·intro w'
  go_simp
  with_reducible rfl
 rotate_left
 ·simp only [aS, i64_w, i32_w]
  rfl
 refine pu_ 5 26 (bs 36 63) ?_ ?_ ?_ ?_ ?_
 rotate_left
 ·intro w'
  go_simp
  with_reducible rfl
 rotate_left
 ·simp only [aS, i64_w, i32_w]
  rfl
 refine pu_ 6 27 (bs 36 127) ?_ ?_ ?_ ?_ ?_
 rotate_left
 ·intro w'
  go_simp
  with_reducible rfl
 rotate_left
 ·simp only [aS, i64_w, i32_w]
  rfl
 refine pv_ 7 28 (bs 36 255) ?_ ?_ ?_
 rotate_left
 ·simp only [aS, i64_w, i32_w]
  rfl
 refine pv_ 8 29 (bs 36 511) ?_ ?_ ?_
 rotate_left
 ·simp only [aS, i64_w, i32_w]
  rfl
 refine pv_ 9 30 (bs 36 1023) ?_ ?_ ?_
 rotate_left
 ·simp only [aS, i64_w, i32_w]
  rfl
 refine pv_ 10 31 (bs 36 2047) ?_ ?_ ?_
 rotate_left
 ·simp only [aS, i64_w, i32_w]
  rfl
 refine pv_ 11 32 (bs 36 4095) ?_ ?_ ?_
 rotate_left
 ·simp only [aS, i64_w, i32_w]
  rfl
 refine pv_ 12 33 (bs 36 8191) ?_ ?_ ?_
 rotate_left
 ·simp only [aS, i64_w, i32_w]
  rfl
 refine pv_ 13 34 (bs 36 16383) ?_ ?_ ?_
 rotate_left
 ·simp only [aS, i64_w, i32_w]
  rfl
 refine pv_ 14 35 (bs 36 32767) ?_ ?_ ?_
 rotate_left
 ·simp only [aS, i64_w, i32_w]
  rfl
 refine pv_ 15 36 (bs 36 65535) ?_ ?_ ?_
 rotate_left
 ·simp only [aS, i64_w, i32_w]
  rfl
 refine pv_ 16 37 (bs 36 131071) ?_ ?_ ?_
 rotate_left
 ·simp only [aS, i64_w, i32_w]
  rfl
 refine pu_ 17 38 (bs 36 262143) ?_ ?_ ?_ ?_ ?_
 rotate_left
 ·intro w'
  go_simp
  with_reducible rfl
 rotate_left
 ·simp only [aS, i64_w, i32_w]
  rfl
 refine pu_ 18 39 (bs 36 524287) ?_ ?_ ?_ ?_ ?_
 rotate_left
 ·intro w'
  go_simp
  with_reducible rfl
 rotate_left
 ·simp only [aS, i64_w, i32_w]
  rfl
 refine pu_ 19 40 (bs 36 1048575) ?_ ?_ ?_ ?_ ?_
 rotate_left
 ·intro w'
  go_simp
  with_reducible rfl
 rotate_left
 ·simp only [aS, i64_w, i32_w]
  rfl
 refine pu_ 20 41 (bs 36 2097151) ?_ ?_ ?_ ?_ ?_
 rotate_left
 ·intro w'
  go_simp
  with_reducible rfl
 rotate_left
 ·simp only [aS, i64_w, i32_w]
  rfl
 refine pu_ 21 42 (bs 36 4194303) ?_ ?_ ?_ ?_ ?_
 rotate_left
 ·intro w'
  go_simp
  with_reducible rfl
 rotate_left
 ·simp only [aS, i64_w, i32_w]
  rfl
 refine pu_ 22 43 (bs 36 8388607) ?_ ?_ ?_ ?_ ?_
 rotate_left
 ·intro w'
  go_simp
  with_reducible rfl
 rotate_left
 ·simp only [aS, i64_w, i32_w]
  rfl
 refine tk_ 23 44 (bs 36 16777215) ?_ ?_ hHeld ?_ ?_ ?_
 rotate_left
 ·rintro w' ⟨s0, s1⟩
  go_simp
  with_reducible rfl
 rotate_left
 ·simp only [aS, i64_w, i32_w]
  rfl
 refine pu_ 24 45 (bs 36 33554431) ?_ ?_ ?_ ?_ ?_
 rotate_left
 ·intro w'
  go_simp
  with_reducible rfl
 rotate_left
 ·simp only [aS, i64_w, i32_w]
  rfl
 refine pu_ 25 46 (bs 36 67108863) ?_ ?_ ?_ ?_ ?_
 rotate_left
 ·intro w'
  go_simp
  with_reducible rfl
 rotate_left
 ·simp only [aS, i64_w, i32_w]
  rfl
 refine pu_ 26 47 (bs 36 134217727) ?_ ?_ ?_ ?_ ?_
 rotate_left
 ·intro w'
  go_simp
  with_reducible rfl
 rotate_left
 ·simp only [aS, i64_w, i32_w]
  rfl
 refine pu_ 27 48 (bs 36 268435455) ?_ ?_ ?_ ?_ ?_
 rotate_left
 ·intro w'
  go_simp
  with_reducible rfl
 rotate_left
 ·simp only [aS, i64_w, i32_w]
  rfl
 refine pu_ 28 49 (bs 36 536870911) ?_ ?_ ?_ ?_ ?_
 rotate_left
 ·intro w'
  go_simp
  with_reducible rfl
 rotate_left
 ·simp only [aS, i64_w, i32_w]
  rfl
 refine pu_ 29 50 (bs 36 1073741823) ?_ ?_ ?_ ?_ ?_
 rotate_left
 ·intro w'
  go_simp
  with_reducible rfl
 rotate_left
 ·simp only [aS, i64_w, i32_w]
  rfl
 refine pu_ 30 51 (bs 36 2147483647) ?_ ?_ ?_ ?_ ?_
 rotate_left
 ·intro w'
  go_simp
  with_reducible rfl
 rotate_left
 ·simp only [aS, i64_w, i32_w]
  rfl
 refine pu_ 31 52 (bs 36 4294967295) ?_ ?_ ?_ ?_ ?_
 rotate_left
 ·intro w'
  go_simp
  with_reducible rfl
 rotate_left
 ·simp only [aS, i64_w, i32_w]
  rfl
 refine pu_ 32 53 (bs 36 8589934591) ?_ ?_ ?_ ?_ ?_
 rotate_left
 ·intro w'
  go_simp
  with_reducible rfl
 rotate_left
 ·simp only [aS, i64_w, i32_w]
  rfl
 refine pu_ 33 54 (bs 36 17179869183) ?_ ?_ ?_ ?_ ?_
 rotate_left
 ·intro w'
  go_simp
  with_reducible rfl
 rotate_left
 ·simp only [aS, i64_w, i32_w]
  rfl
 refine pu_ 34 55 (bs 36 34359738367) ?_ ?_ ?_ ?_ ?_
 rotate_left
 ·intro w'
  go_simp
  with_reducible rfl
 rotate_left
 ·simp only [aS, i64_w, i32_w]
  rfl
 refine pu_ 35 56 (bs 36 68719476735) ?_ ?_ ?_ ?_ ?_
 rotate_left
 ·intro w'
  go_simp
  with_reducible rfl
 rotate_left
 ·simp only [aS, i64_w, i32_w]
  rfl
 refine done_ (by kernel_rfl) ?_
 replace HA := Aside0.mk (HA.out.on hHeld.1)
 replace HB := Aside0.mk (bl_on HB.out hHeld.1 HB.out.size)
 replace HS := Aside0.mk (Nat.le_trans HS.out hHeld.1.size)
 clear hHeld
 go_upto_region 7 with (first | ((with_reducible refine gate_dst (N := 59) rfl ?_); refine goesL_ (some 59) rfl rfl Try.func27 (by kernel_rfl) rfl #[.slice A l.length c] rfl (by (try simp only [List.map_toArray, List.map_cons, List.map_nil]); first | done | rfl) ?_; (with_reducible refine (K4.out _ HB.out).mono ?_); rintro e u22 ⟨rfl, hb_⟩; refine ⟨_, rfl, ?_⟩; replace HA := Aside0.mk (HA.out.on hb_); replace HB := Aside0.mk (bl_on HB.out hb_ HB.out.size); replace HS := Aside0.mk (Nat.le_trans HS.out hb_.size); clear hb_) | ((with_reducible refine gate_dst (N := 9) rfl ?_); refine al_pt rfl _ rfl rfl ?_; intro g9 u23 eg_ hn_ hb_; have HXg9 : Aside0 (w.heap.size + 1 ≤ g9) := Aside0.mk (by rw [eg_]; exact HS.out); replace HA := Aside0.mk (HA.out.on hb_); replace HB := Aside0.mk (bl_on HB.out hb_ HB.out.size); replace HS := Aside0.mk (Nat.le_trans HS.out hb_.size); have Hg9 := Aside0.mk hn_; clear hn_ hb_ eg_) | ((with_reducible refine gate_st (y := .tmp 60) rfl ?_); (try simp only [aS]); refine st_pt (x := X) (y := Y) (f := false) Hg9.out rfl _ _ rfl rfl rfl ?_; intro u24 hn_ hb_; replace HA := Aside0.mk (HA.out.but hb_ (by have := HXg9.out; omega)); replace Hg9 := Aside0.mk hn_; replace HB := Aside0.mk (bl_but HB.out hb_ HB.out.size (by have := HXg9.out; omega)); replace HS := Aside0.mk (Nat.le_trans HS.out hb_.size); clear hn_ hb_))
 go_upto_region 8 with (first | ((with_reducible refine gate_dst (N := 64) rfl ?_); refine goesL_ (some 64) rfl rfl Try.func28 (by kernel_rfl) rfl #[.slice A l.length c] rfl (by (try simp only [List.map_toArray, List.map_cons, List.map_nil]); first | done | rfl) ?_; (with_reducible refine (K5.out _ HB.out).mono ?_); rintro e u25 ⟨rfl, hb_⟩; refine ⟨_, rfl, ?_⟩; replace HA := Aside0.mk (HA.out.on hb_); replace Hg9 := Aside0.mk (Hg9.out.on hb_); replace HB := Aside0.mk (bl_on HB.out hb_ HB.out.size); replace HS := Aside0.mk (Nat.le_trans HS.out hb_.size); clear hb_) | ((with_reducible refine gate_dst (N := 11) rfl ?_); refine al_pt rfl _ rfl rfl ?_; intro g11 u26 eg_ hn_ hb_; have HXg11 : Aside0 (w.heap.size + 1 ≤ g11 ∧ g9 < g11) := Aside0.mk (by rw [eg_]; exact ⟨HS.out, Hg9.out.size⟩); replace HA := Aside0.mk (HA.out.on hb_); replace Hg9 := Aside0.mk (Hg9.out.on hb_); replace HB := Aside0.mk (bl_on HB.out hb_ HB.out.size); replace HS := Aside0.mk (Nat.le_trans HS.out hb_.size); have Hg11 := Aside0.mk hn_; clear hn_ hb_ eg_) | ((with_reducible refine gate_st (y := .tmp 65) rfl ?_); (try simp only [aS]); refine st_pt (x := X) (y := Y) (f := false) Hg11.out rfl _ _ rfl rfl rfl ?_; intro u27 hn_ hb_; replace HA := Aside0.mk (HA.out.but hb_ (by have := HXg9.out; have := HXg11.out; omega)); replace Hg9 := Aside0.mk (Hg9.out.but hb_ (by have := HXg9.out; have := HXg11.out; omega)); replace Hg11 := Aside0.mk hn_; replace HB := Aside0.mk (bl_but HB.out hb_ HB.out.size (by have := HXg9.out; have := HXg11.out; omega)); replace HS := Aside0.mk (Nat.le_trans HS.out hb_.size); clear hn_ hb_))
 go_upto_region 10 with (fail)
 go_wp2_with (first | ((with_reducible refine gate_dst (N := 86) rfl ?_); refine ld_ptG Hg9.out (by rfl) _ rfl rfl ?_) | ((with_reducible refine gate_dst (N := 87) rfl ?_); refine ld_ptG Hg11.out (by rfl) _ rfl rfl ?_))
 go_ret
 exact ⟨rfl, HB.out⟩
set_option maxRecDepth 100000 in
set_option maxHeartbeats 8000000 in
theorem pb_true_true_no {x y : Nat} (hx : x < N256) (hy : y < N256) (hon : onB x y true = true) {A : Option Addr} {l : List Nat} {c : Nat} (w : World) (h0 : BAt w A l) (hc : l.length ≤ c) (hp : ¬(l.length = 64 ∧ onB (b2x l) (b2y l) false = true)) :
  Calls Try.prog 8 #[ptV x y true, .slice A l.length c] w fun e w' => e = .returned (.bool true) ∧ Below w.heap.size w w' := by
 have e1 : prV l = .tuple #[ptV 0 0 false, .iface 38 (.int .i64 2)] := by unfold prV; rw [if_neg hp]
 have e2 : rrV l = .tuple #[ptV 0 0 false, .bool false] := by unfold rrV; rw [if_neg hp]
 have hq : ∀ w, (binOp .eql 26 (ptV 0 0 false) (.agg #[.int .u64 0, .int .u64 0, .int .u64 0, .int .u64 0, .int .u64 0, .int .u64 0, .int .u64 0, .int .u64 0, .bool false])).run Try.prog w = .ok (.bool true) w := fun w =>
  eql_pt (x := 0) (y := 0) (x' := 0) (y' := 0) N256_pos N256_pos N256_pos N256_pos false false w
 have hg : ∀ w x_ y_, (eqGuard .eql 26 x_ y_ (ptV 0 0 false) (.agg #[.int .u64 0, .int .u64 0, .int .u64 0, .int .u64 0, .int .u64 0, .int .u64 0, .int .u64 0, .int .u64 0, .bool false])).run Try.prog w = .ok () w := fun w x_ y_ => eqg_pt .eql x_ y_ 0 0 0 0 false false w
 have K1 := Aside0.mk (fun (u : World) => up_calls u)
 have K2 := Aside0.mk (fun (u : World) => pbytes_true_true hx hy hon u)
 have K3 := Aside0.mk (fun (u : World) => rOn_calls hx hy true u)
 have K4 := Aside0.mk (fun (u : World) (h : Below w.heap.size w u) => pparse_calls u (BAt.below h0 h (Nat.le_refl _)) hc)
 have K5 := Aside0.mk (fun (u : World) (h : Below w.heap.size w u) => rparse_calls u (BAt.below h0 h (Nat.le_refl _)) hc)
 rw [e1] at K4
 rw [e2] at K5
 rw [hon] at K3
 clear e1 e2 hp
 clear hx hy hon h0 hc
 go_enter Try.func8, Try.ntmps8
 go_upto_region 1 with (fail)
 refine wp_at (w2 := (World.alloc w (.cells (pw x y true).toArray 26))) rfl ?_
 obtain ⟨x_0, e_0, h_0, b_0, s_0⟩ := new_PtAt w x y true
 rw [e_0]
 have HB : Aside0 (Below w.heap.size w x_0) := Aside0.mk b_0
 have HA : Aside0 (PtAt x_0 (w.heap.size) x y true) := Aside0.mk h_0
 have HS : Aside0 (w.heap.size + 1 ≤ x_0.heap.size) := Aside0.mk (Nat.le_of_eq s_0.symm)
 clear e_0 h_0 b_0 s_0
 obtain ⟨w1, hw_⟩ : ∃ x, x = x_0 := ⟨_, rfl⟩
 subst hw_
 go_upto_region 2 with (first | ((with_reducible refine gate_dst (N := 13) rfl ?_); refine goesL_ (some 13) rfl rfl Try.func9 (by kernel_rfl) rfl #[] rfl (by (try simp only [List.map_toArray, List.map_cons, List.map_nil]); first | done | rfl) ?_; (with_reducible refine (K1.out _).mono ?_); rintro e u28 ⟨rfl, hb_⟩; refine ⟨_, rfl, ?_⟩; replace HA := Aside0.mk (HA.out.on hb_); replace HB := Aside0.mk (bl_on HB.out hb_ HB.out.size); replace HS := Aside0.mk (Nat.le_trans HS.out hb_.size); clear hb_))
 go_upto_region 3 with (first | ((with_reducible refine gate_dst (N := 15) rfl ?_); refine ld_pt HA.out rfl _ rfl rfl ?_) | ((with_reducible refine gate_dst (N := 16) rfl ?_); refine goesL_ (some 16) rfl rfl Try.func25 (by kernel_rfl) rfl #[ptV x y true] rfl (by (try simp only [List.map_toArray, List.map_cons, List.map_nil]); first | done | rfl) ?_; (with_reducible refine (K2.out _).mono ?_); rintro e u29 ⟨rfl, hb_⟩; refine ⟨_, rfl, ?_⟩; replace HA := Aside0.mk (HA.out.on hb_); replace HB := Aside0.mk (bl_on HB.out hb_ HB.out.size); replace HS := Aside0.mk (Nat.le_trans HS.out hb_.size); clear hb_))
 go_upto_region 4 with (first | ((with_reducible refine gate_dst (N := 19) rfl ?_); refine ld_pt HA.out rfl _ rfl rfl ?_) | ((with_reducible refine gate_dst (N := 20) rfl ?_); refine goesL_ (some 20) rfl rfl Try.func13 (by kernel_rfl) rfl #[ptV x y true] rfl (by (try simp only [List.map_toArray, List.map_cons, List.map_nil]); first | done | rfl) ?_; (with_reducible refine (K3.out _).mono ?_); rintro e u30 ⟨rfl, hb_⟩; refine ⟨_, rfl, ?_⟩; replace HA := Aside0.mk (HA.out.on hb_); replace HB := Aside0.mk (bl_on HB.out hb_ HB.out.size); replace HS := Aside0.mk (Nat.le_trans HS.out hb_.size); clear hb_))
 refine start_ (n := 36) (S := fun w' => Below u30.heap.size u30 w' ∧ w'.cell? ⟨w.heap.size, 8, none⟩ = some (.bool true)) (ds := []) (bs 36 0) (by kernel_rfl) rfl rfl ⟨(Below.refl _ _).drew, HA.out.far⟩ (fun hHeld => ?_)
 refine pu_ 0 21 (bs 36 1) ?_ ?_ ?_ ?_ ?_
 rotate_left
 ·intro w'
  go_simp
  with_reducible rfl
 rotate_left
 ·simp only [aS, i64_w, i32_w]
  rfl
 refine pu_ 1 22 (bs 36 3) ?_ ?_ ?_ ?_ ?_
 rotate_left
 ·intro w'
  go_simp
  with_reducible rfl
 rotate_left
 ·simp only [aS, i64_w, i32_w]
  rfl
 refine pu_ 2 23 (bs 36 7) ?_ ?_ ?_ ?_ ?_
 rotate_left
 ·intro w'
  go_simp
  with_reducible rfl
 rotate_left
 ·simp only [aS, i64_w, i32_w]
  rfl
 refine tk_ 3 24 (bs 36 15) ?_ ?_ hHeld ?_ ?_ ?_
 rotate_left
 ·rintro w' ⟨s0, s1⟩
  go_simp
  with_reducible rfl
 rotate_left
 ·simp only [aS, i64_w, i32_w]
  rfl
 refine pu_ 4 25 (bs 36 31) ?_ ?_ ?_ ?_ ?_
 rotate_left
 ·intro w'
  go_simp
  with_reducible rfl
 rotate_left
 ·simp only [aS, i64_w, i32_w]
  rfl
 refine pu_ 5 26 (bs 36 63) ?_ ?_ ?_ ?_ ?_
 rotate_left
 ·intro w'
  go_simp
  with_reducible rfl
 rotate_left
 ·simp only [aS, i64_w, i32_w]
  rfl
 refine pu_ 6 27 (bs 36 127) ?_ ?_ ?_ ?_ ?_
 rotate_left
 ·intro w'
  go_simp
  with_reducible rfl
 rotate_left
 ·simp only [aS, i64_w, i32_w]
  rfl
 refine pv_ 7 28 (bs 36 255) ?_ ?_ ?_
 rotate_left
 ·simp only [aS, i64_w, i32_w]
  rfl
 refine pv_ 8 29 (bs 36 511) ?_ ?_ ?_
 rotate_left
 ·simp only [aS, i64_w, i32_w]
  rfl
 refine pv_ 9 30 (bs 36 1023) ?_ ?_ ?_
 rotate_left
 ·simp only [aS, i64_w, i32_w]
  rfl
 refine pv_ 10 31 (bs 36 2047) ?_ ?_ ?_
 rotate_left
 ·simp only [aS, i64_w, i32_w]
  rfl
 refine pv_ 11 32 (bs 36 4095) ?_ ?_ ?_
 rotate_left
 ·simp only [aS, i64_w, i32_w]
  rfl
 refine pv_ 12 33 (bs 36 8191) ?_ ?_ ?_
 rotate_left
 ·simp only [aS, i64_w, i32_w]
  rfl
 refine pv_ 13 34 (bs 36 16383) ?_ ?_ ?_
 rotate_left
 ·simp only [aS, i64_w, i32_w]
  rfl
 refine pv_ 14 35 (bs 36 32767) ?_ ?_ ?_
 rotate_left
 ·simp only [aS, i64_w, i32_w]
  rfl
 refine pv_ 15 36 (bs 36 65535) ?_ ?_ ?_
 rotate_left
 ·simp only [aS, i64_w, i32_w]
  rfl
 refine pv_ 16 37 (bs 36 131071) ?_ ?_ ?_
 rotate_left
 ·simp only [aS, i64_w, i32_w]
  rfl
 refine pu_ 17 38 (bs 36 262143) ?_ ?_ ?_ ?_ ?_
 rotate_left
 ·intro w'
  go_simp
  with_reducible rfl
 rotate_left
 ·simp only [aS, i64_w, i32_w]
  rfl
 refine pu_ 18 39 (bs 36 524287) ?_ ?_ ?_ ?_ ?_
 rotate_left
 ·intro w'
  go_simp
  with_reducible rfl
 rotate_left
 ·simp only [aS, i64_w, i32_w]
  rfl
 refine pu_ 19 40 (bs 36 1048575) ?_ ?_ ?_ ?_ ?_
 rotate_left
 ·intro w'
  go_simp
  with_reducible rfl
 rotate_left
 ·simp only [aS, i64_w, i32_w]
  rfl
 refine pu_ 20 41 (bs 36 2097151) ?_ ?_ ?_ ?_ ?_
 rotate_left
 ·intro w'
  go_simp
  with_reducible rfl
 rotate_left
 ·simp only [aS, i64_w, i32_w]
  rfl
 refine pu_ 21 42 (bs 36 4194303) ?_ ?_ ?_ ?_ ?_
 rotate_left
 ·intro w'
  go_simp
  with_reducible rfl
 rotate_left
 ·simp only [aS, i64_w, i32_w]
  rfl
 refine pu_ 22 43 (bs 36 8388607) ?_ ?_ ?_ ?_ ?_
 rotate_left
 ·intro w'
  go_simp
  with_reducible rfl
 rotate_left
 ·simp only [aS, i64_w, i32_w]
  rfl
 refine tk_ 23 44 (bs 36 16777215) ?_ ?_ hHeld ?_ ?_ ?_
 rotate_left
 ·rintro w' ⟨s0, s1⟩
  go_simp
  with_reducible rfl
 rotate_left
 ·simp only [aS, i64_w, i32_w]
  rfl
 refine pu_ 24 45 (bs 36 33554431) ?_ ?_ ?_ ?_ ?_
 rotate_left
 ·intro w'
  go_simp
  with_reducible rfl
 rotate_left
 ·simp only [aS, i64_w, i32_w]
  rfl
 refine pu_ 25 46 (bs 36 67108863) ?_ ?_ ?_ ?_ ?_
 rotate_left
 ·intro w'
  go_simp
  with_reducible rfl
 rotate_left
 ·simp only [aS, i64_w, i32_w]
  rfl
 refine pu_ 26 47 (bs 36 134217727) ?_ ?_ ?_ ?_ ?_
 rotate_left
 ·intro w'
  go_simp
  with_reducible rfl
 rotate_left
 ·simp only [aS, i64_w, i32_w]
  rfl
 refine pu_ 27 48 (bs 36 268435455) ?_ ?_ ?_ ?_ ?_
 rotate_left
 ·intro w'
  go_simp
  with_reducible rfl
 rotate_left
 ·simp only [aS, i64_w, i32_w]
  rfl
 refine pu_ 28 49 (bs 36 536870911) ?_ ?_ ?_ ?_ ?_
 rotate_left
 ·intro w'
  go_simp
  with_reducible rfl
 rotate_left
 ·simp only [aS, i64_w, i32_w]
  rfl
 refine pu_ 29 50 (bs 36 1073741823) ?_ ?_ ?_ ?_ ?_
 rotate_left
 ·intro w'
  go_simp
  with_reducible rfl
 rotate_left
 ·simp only [aS, i64_w, i32_w]
  rfl
 refine pu_ 30 51 (bs 36 2147483647) ?_ ?_ ?_ ?_ ?_
 rotate_left
 ·intro w'
  go_simp
  with_reducible rfl
 rotate_left
 ·simp only [aS, i64_w, i32_w]
  rfl
 refine pu_ 31 52 (bs 36 4294967295) ?_ ?_ ?_ ?_ ?_
 rotate_left
 ·intro w'
  go_simp
  with_reducible rfl
 rotate_left
 ·simp only [aS, i64_w, i32_w]
  rfl
 refine pu_ 32 53 (bs 36 8589934591) ?_ ?_ ?_ ?_ ?_
 rotate_left
 ·intro w'
  go_simp
  with_reducible rfl
 rotate_left
 ·simp only [aS, i64_w, i32_w]
  rfl
 refine pu_ 33 54 (bs 36 17179869183) ?_ ?_ ?_ ?_ ?_
 rotate_left
 ·intro w'
  go_simp
  with_reducible rfl
 rotate_left
 ·simp only [aS, i64_w, i32_w]
  rfl
 refine pu_ 34 55 (bs 36 34359738367) ?_ ?_ ?_ ?_ ?_
 rotate_left
 ·intro w'
  go_simp
  with_reducible rfl
 rotate_left
 ·simp only [aS, i64_w, i32_w]
  rfl
 refine pu_ 35 56 (bs 36 68719476735) ?_ ?_ ?_ ?_ ?_
 rotate_left
 ·intro w'
  go_simp
  with_reducible rfl
 rotate_left
 ·simp only [aS, i64_w, i32_w]
  rfl
 refine done_ (by kernel_rfl) ?_
 replace HA := Aside0.mk (HA.out.on hHeld.1)
 replace HB := Aside0.mk (bl_on HB.out hHeld.1 HB.out.size)
 replace HS := Aside0.mk (Nat.le_trans HS.out hHeld.1.size)
 clear hHeld
 go_upto_region 7 with (first | ((with_reducible refine gate_dst (N := 59) rfl ?_); refine goesL_ (some 59) rfl rfl Try.func27 (by kernel_rfl) rfl #[.slice A l.length c] rfl (by (try simp only [List.map_toArray, List.map_cons, List.map_nil]); first | done | rfl) ?_; (with_reducible refine (K4.out _ HB.out).mono ?_); rintro e u31 ⟨rfl, hb_⟩; refine ⟨_, rfl, ?_⟩; replace HA := Aside0.mk (HA.out.on hb_); replace HB := Aside0.mk (bl_on HB.out hb_ HB.out.size); replace HS := Aside0.mk (Nat.le_trans HS.out hb_.size); clear hb_) | ((with_reducible refine gate_dst (N := 9) rfl ?_); refine al_pt rfl _ rfl rfl ?_; intro g9 u32 eg_ hn_ hb_; have HXg9 : Aside0 (w.heap.size + 1 ≤ g9) := Aside0.mk (by rw [eg_]; exact HS.out); replace HA := Aside0.mk (HA.out.on hb_); replace HB := Aside0.mk (bl_on HB.out hb_ HB.out.size); replace HS := Aside0.mk (Nat.le_trans HS.out hb_.size); have Hg9 := Aside0.mk hn_; clear hn_ hb_ eg_) | ((with_reducible refine gate_st (y := .tmp 60) rfl ?_); (try simp only [aS]); refine st_pt (x := 0) (y := 0) (f := false) Hg9.out rfl _ _ rfl rfl rfl ?_; intro u33 hn_ hb_; replace HA := Aside0.mk (HA.out.but hb_ (by have := HXg9.out; omega)); replace Hg9 := Aside0.mk hn_; replace HB := Aside0.mk (bl_but HB.out hb_ HB.out.size (by have := HXg9.out; omega)); replace HS := Aside0.mk (Nat.le_trans HS.out hb_.size); clear hn_ hb_))
 go_upto_region 8 with (first | ((with_reducible refine gate_dst (N := 64) rfl ?_); refine goesL_ (some 64) rfl rfl Try.func28 (by kernel_rfl) rfl #[.slice A l.length c] rfl (by (try simp only [List.map_toArray, List.map_cons, List.map_nil]); first | done | rfl) ?_; (with_reducible refine (K5.out _ HB.out).mono ?_); rintro e u34 ⟨rfl, hb_⟩; refine ⟨_, rfl, ?_⟩; replace HA := Aside0.mk (HA.out.on hb_); replace Hg9 := Aside0.mk (Hg9.out.on hb_); replace HB := Aside0.mk (bl_on HB.out hb_ HB.out.size); replace HS := Aside0.mk (Nat.le_trans HS.out hb_.size); clear hb_) | ((with_reducible refine gate_dst (N := 11) rfl ?_); refine al_pt rfl _ rfl rfl ?_; intro g11 u35 eg_ hn_ hb_; have HXg11 : Aside0 (w.heap.size + 1 ≤ g11 ∧ g9 < g11) := Aside0.mk (by rw [eg_]; exact ⟨HS.out, Hg9.out.size⟩); replace HA := Aside0.mk (HA.out.on hb_); replace Hg9 := Aside0.mk (Hg9.out.on hb_); replace HB := Aside0.mk (bl_on HB.out hb_ HB.out.size); replace HS := Aside0.mk (Nat.le_trans HS.out hb_.size); have Hg11 := Aside0.mk hn_; clear hn_ hb_ eg_) | ((with_reducible refine gate_st (y := .tmp 65) rfl ?_); (try simp only [aS]); refine st_pt (x := 0) (y := 0) (f := false) Hg11.out rfl _ _ rfl rfl rfl ?_; intro u36 hn_ hb_; replace HA := Aside0.mk (HA.out.but hb_ (by have := HXg9.out; have := HXg11.out; omega)); replace Hg9 := Aside0.mk (Hg9.out.but hb_ (by have := HXg9.out; have := HXg11.out; omega)); replace Hg11 := Aside0.mk hn_; replace HB := Aside0.mk (bl_but HB.out hb_ HB.out.size (by have := HXg9.out; have := HXg11.out; omega)); replace HS := Aside0.mk (Nat.le_trans HS.out hb_.size); clear hn_ hb_))
 go_upto_region 9 with (fail)
 go_wp2_with (first | ((with_reducible refine gate_dst (N := 76) rfl ?_); refine ld_ptG Hg9.out (by rfl) _ rfl rfl ?_))
 go_ret
 exact ⟨rfl, HB.out⟩
set_option maxRecDepth 100000 in
set_option maxHeartbeats 8000000 in
theorem pb_false_false_is {x y : Nat} (hx : x < N256) (hy : y < N256) (hon : onB x y false = false) {A : Option Addr} {l : List Nat} {c : Nat} (w : World) (h0 : BAt w A l) (hc : l.length ≤ c) (hp : (l.length = 64 ∧ onB (b2x l) (b2y l) false = true)) :
  Calls Try.prog 8 #[ptV x y false, .slice A l.length c] w fun e w' => e = .returned (.bool true) ∧ Below w.heap.size w w' := by
 have e1 : prV l = .tuple #[ptV (b2x l) (b2y l) false, .nilIface] := by unfold prV; rw [if_pos hp]
 have e2 : rrV l = .tuple #[ptV (b2x l) (b2y l) false, .bool true] := by unfold rrV; rw [if_pos hp]
 have hX : b2x l < N256 := lt_N (onB_lt hp.2).1
 have hY : b2y l < N256 := lt_N (onB_lt hp.2).2
 have hq := fun w => eql_pt hX hY hX hY false false w
 rw [decide_eq_true ⟨rfl, rfl, rfl⟩] at hq
 have hg := fun w x_ y_ => eqg_pt .eql x_ y_ (b2x l) (b2y l) (b2x l) (b2y l) false false w
 have K1 := Aside0.mk (fun (u : World) => up_calls u)
 have K2 := Aside0.mk (fun (u : World) => pbytes_false_false hx hy hon u)
 have K3 := Aside0.mk (fun (u : World) => rOn_calls hx hy false u)
 have K4 := Aside0.mk (fun (u : World) (h : Below w.heap.size w u) => pparse_calls u (BAt.below h0 h (Nat.le_refl _)) hc)
 have K5 := Aside0.mk (fun (u : World) (h : Below w.heap.size w u) => rparse_calls u (BAt.below h0 h (Nat.le_refl _)) hc)
 rw [e1] at K4
 rw [e2] at K5
 rw [hon] at K3
 clear e1 e2 hp hX hY
 generalize b2x l = X at *
 generalize b2y l = Y at *
 clear hx hy hon h0 hc
 go_enter Try.func8, Try.ntmps8
 go_upto_region 1 with (fail)
 refine wp_at (w2 := (World.alloc w (.cells (pw x y false).toArray 26))) rfl ?_
 obtain ⟨x_0, e_0, h_0, b_0, s_0⟩ := new_PtAt w x y false
 rw [e_0]
 have HB : Aside0 (Below w.heap.size w x_0) := Aside0.mk b_0
 have HA : Aside0 (PtAt x_0 (w.heap.size) x y false) := Aside0.mk h_0
 have HS : Aside0 (w.heap.size + 1 ≤ x_0.heap.size) := Aside0.mk (Nat.le_of_eq s_0.symm)
 clear e_0 h_0 b_0 s_0
 obtain ⟨w1, hw_⟩ : ∃ x, x = x_0 := ⟨_, rfl⟩
 subst hw_
 go_upto_region 2 with (first | ((with_reducible refine gate_dst (N := 13) rfl ?_); refine goesL_ (some 13) rfl rfl Try.func9 (by kernel_rfl) rfl #[] rfl (by (try simp only [List.map_toArray, List.map_cons, List.map_nil]); first | done | rfl) ?_; (with_reducible refine (K1.out _).mono ?_); rintro e u37 ⟨rfl, hb_⟩; refine ⟨_, rfl, ?_⟩; replace HA := Aside0.mk (HA.out.on hb_); replace HB := Aside0.mk (bl_on HB.out hb_ HB.out.size); replace HS := Aside0.mk (Nat.le_trans HS.out hb_.size); clear hb_))
 go_upto_region 3 with (first | ((with_reducible refine gate_dst (N := 15) rfl ?_); refine ld_pt HA.out rfl _ rfl rfl ?_) | ((with_reducible refine gate_dst (N := 16) rfl ?_); refine goesL_ (some 16) rfl rfl Try.func25 (by kernel_rfl) rfl #[ptV x y false] rfl (by (try simp only [List.map_toArray, List.map_cons, List.map_nil]); first | done | rfl) ?_; (with_reducible refine (K2.out _).mono ?_); rintro e u38 ⟨rfl, hb_⟩; refine ⟨_, rfl, ?_⟩; replace HA := Aside0.mk (HA.out.on hb_); replace HB := Aside0.mk (bl_on HB.out hb_ HB.out.size); replace HS := Aside0.mk (Nat.le_trans HS.out hb_.size); clear hb_))
 go_upto_region 4 with (first | ((with_reducible refine gate_dst (N := 19) rfl ?_); refine ld_pt HA.out rfl _ rfl rfl ?_) | ((with_reducible refine gate_dst (N := 20) rfl ?_); refine goesL_ (some 20) rfl rfl Try.func13 (by kernel_rfl) rfl #[ptV x y false] rfl (by (try simp only [List.map_toArray, List.map_cons, List.map_nil]); first | done | rfl) ?_; (with_reducible refine (K3.out _).mono ?_); rintro e u39 ⟨rfl, hb_⟩; refine ⟨_, rfl, ?_⟩; replace HA := Aside0.mk (HA.out.on hb_); replace HB := Aside0.mk (bl_on HB.out hb_ HB.out.size); replace HS := Aside0.mk (Nat.le_trans HS.out hb_.size); clear hb_))
 refine start_ (n := 36) (S := fun w' => Below u39.heap.size u39 w') (ds := []) (bs 36 0) (by kernel_rfl) rfl rfl ((Below.refl _ _).drew) (fun hHeld => ?_)
 refine pu_ 0 21 (bs 36 1) ?_ ?_ ?_ ?_ ?_
 rotate_left
 ·intro w'
  go_simp
  with_reducible rfl
 rotate_left
 ·simp only [aS, i64_w, i32_w]
  rfl
 refine pu_ 1 22 (bs 36 3) ?_ ?_ ?_ ?_ ?_
 rotate_left
 ·intro w'
  go_simp
  with_reducible rfl
 rotate_left
 ·simp only [aS, i64_w, i32_w]
  rfl
 refine pv_ 2 23 (bs 36 7) ?_ ?_ ?_
 rotate_left
 ·simp only [aS, i64_w, i32_w]
  rfl
 refine pv_ 3 24 (bs 36 15) ?_ ?_ ?_
 rotate_left
 ·simp only [aS, i64_w, i32_w]
  rfl
 refine pv_ 4 25 (bs 36 31) ?_ ?_ ?_
 rotate_left
 ·simp only [aS, i64_w, i32_w]
  rfl
 refine pu_ 5 26 (bs 36 63) ?_ ?_ ?_ ?_ ?_
 rotate_left
 ·intro w'
  go_simp
  with_reducible rfl
 rotate_left
 ·simp only [aS, i64_w, i32_w]
  rfl
 refine pu_ 6 27 (bs 36 127) ?_ ?_ ?_ ?_ ?_
 rotate_left
 ·intro w'
  go_simp
  with_reducible rfl
 rotate_left
 ·simp only [aS, i64_w, i32_w]
  rfl
 refine pv_ 7 28 (bs 36 255) ?_ ?_ ?_
 rotate_left
 ·simp only [aS, i64_w, i32_w]
  rfl
 refine pv_ 8 29 (bs 36 511) ?_ ?_ ?_
 rotate_left
 ·simp only [aS, i64_w, i32_w]
  rfl
 refine pv_ 9 30 (bs 36 1023) ?_ ?_ ?_
 rotate_left
 ·simp only [aS, i64_w, i32_w]
  rfl
 refine pv_ 10 31 (bs 36 2047) ?_ ?_ ?_
 rotate_left
 ·simp only [aS, i64_w, i32_w]
  rfl
 refine pv_ 11 32 (bs 36 4095) ?_ ?_ ?_
 rotate_left
 ·simp only [aS, i64_w, i32_w]
  rfl
 refine pv_ 12 33 (bs 36 8191) ?_ ?_ ?_
 rotate_left
 ·simp only [aS, i64_w, i32_w]
  rfl
 refine pv_ 13 34 (bs 36 16383) ?_ ?_ ?_
 rotate_left
 ·simp only [aS, i64_w, i32_w]
  rfl
 refine pv_ 14 35 (bs 36 32767) ?_ ?_ ?_
 rotate_left
 ·simp only [aS, i64_w, i32_w]
  rfl
 refine pv_ 15 36 (bs 36 65535) ?_ ?_ ?_
 rotate_left
 ·simp only [aS, i64_w, i32_w]
  rfl
 refine pv_ 16 37 (bs 36 131071) ?_ ?_ ?_
 rotate_left
 ·simp only [aS, i64_w, i32_w]
  rfl
 refine pu_ 17 38 (bs 36 262143) ?_ ?_ ?_ ?_ ?_
 rotate_left
 ·intro w'
  go_simp
  with_reducible rfl
 rotate_left
 ·simp only [aS, i64_w, i32_w]
  rfl
 refine pu_ 18 39 (bs 36 524287) ?_ ?_ ?_ ?_ ?_
 rotate_left
 ·intro w'
  go_simp
  with_reducible rfl
 rotate_left
 ·simp only [aS, i64_w, i32_w]
  rfl
 refine pu_ 19 40 (bs 36 1048575) ?_ ?_ ?_ ?_ ?_
 rotate_left
 ·intro w'
  go_simp
  with_reducible rfl
 rotate_left
 ·simp only [aS, i64_w, i32_w]
  rfl
 refine pu_ 20 41 (bs 36 2097151) ?_ ?_ ?_ ?_ ?_
 rotate_left
 ·intro w'
  go_simp
  with_reducible rfl
 rotate_left
 ·simp only [aS, i64_w, i32_w]
  rfl
 refine pu_ 21 42 (bs 36 4194303) ?_ ?_ ?_ ?_ ?_
 rotate_left
 ·intro w'
  go_simp
  with_reducible rfl
 rotate_left
 ·simp only [aS, i64_w, i32_w]
  rfl
 refine pv_ 22 43 (bs 36 8388607) ?_ ?_ ?_
 rotate_left
 ·simp only [aS, i64_w, i32_w]
  rfl
 refine pv_ 23 44 (bs 36 16777215) ?_ ?_ ?_
 rotate_left
 ·simp only [aS, i64_w, i32_w]
  rfl
 refine pu_ 24 45 (bs 36 33554431) ?_ ?_ ?_ ?_ ?_
 rotate_left
 ·intro w'
  go_simp
  with_reducible rfl
 rotate_left
 ·simp only [aS, i64_w, i32_w]
  rfl
 refine pu_ 25 46 (bs 36 67108863) ?_ ?_ ?_ ?_ ?_
 rotate_left
 ·intro w'
  go_simp
  with_reducible rfl
 rotate_left
 ·simp only [aS, i64_w, i32_w]
  rfl
 refine pu_ 26 47 (bs 36 134217727) ?_ ?_ ?_ ?_ ?_
 rotate_left
 ·intro w'
  go_simp
  with_reducible rfl
 rotate_left
 ·simp only [aS, i64_w, i32_w]
  rfl
 refine pu_ 27 48 (bs 36 268435455) ?_ ?_ ?_ ?_ ?_
 rotate_left
 ·intro w'
  go_simp
  with_reducible rfl
 rotate_left
 ·simp only [aS, i64_w, i32_w]
  rfl
 refine pu_ 28 49 (bs 36 536870911) ?_ ?_ ?_ ?_ ?_
 rotate_left
 ·intro w'
  go_simp
  with_reducible rfl
 rotate_left
 ·simp only [aS, i64_w, i32_w]
  rfl
 refine pu_ 29 50 (bs 36 1073741823) ?_ ?_ ?_ ?_ ?_
 rotate_left
 ·intro w'
  go_simp
  with_reducible rfl
 rotate_left
 ·simp only [aS, i64_w, i32_w]
  rfl
 refine pu_ 30 51 (bs 36 2147483647) ?_ ?_ ?_ ?_ ?_
 rotate_left
 ·intro w'
  go_simp
  with_reducible rfl
 rotate_left
 ·simp only [aS, i64_w, i32_w]
  rfl
 refine pu_ 31 52 (bs 36 4294967295) ?_ ?_ ?_ ?_ ?_
 rotate_left
 ·intro w'
  go_simp
  with_reducible rfl
 rotate_left
 ·simp only [aS, i64_w, i32_w]
  rfl
 refine pu_ 32 53 (bs 36 8589934591) ?_ ?_ ?_ ?_ ?_
 rotate_left
 ·intro w'
  go_simp
  with_reducible rfl
 rotate_left
 ·simp only [aS, i64_w, i32_w]
  rfl
 refine pu_ 33 54 (bs 36 17179869183) ?_ ?_ ?_ ?_ ?_
 rotate_left
 ·intro w'
  go_simp
  with_reducible rfl
 rotate_left
 ·simp only [aS, i64_w, i32_w]
  rfl
 refine pu_ 34 55 (bs 36 34359738367) ?_ ?_ ?_ ?_ ?_
 rotate_left
 ·intro w'
  go_simp
  with_reducible rfl
 rotate_left
 ·simp only [aS, i64_w, i32_w]
  rfl
 refine pu_ 35 56 (bs 36 68719476735) ?_ ?_ ?_ ?_ ?_
 rotate_left
 ·intro w'
  go_simp
  with_reducible rfl
 rotate_left
 ·simp only [aS, i64_w, i32_w]
  rfl
 refine done_ (by kernel_rfl) ?_
 replace HA := Aside0.mk (HA.out.on hHeld)
 replace HB := Aside0.mk (bl_on HB.out hHeld HB.out.size)
 replace HS := Aside0.mk (Nat.le_trans HS.out hHeld.size)
 clear hHeld
 go_upto_region 7 with (first | ((with_reducible refine gate_dst (N := 59) rfl ?_); refine goesL_ (some 59) rfl rfl Try.func27 (by kernel_rfl) rfl #[.slice A l.length c] rfl (by (try simp only [List.map_toArray, List.map_cons, List.map_nil]); first | done | rfl) ?_; (with_reducible refine (K4.out _ HB.out).mono ?_); rintro e u40 ⟨rfl, hb_⟩; refine ⟨_, rfl, ?_⟩; replace HA := Aside0.mk (HA.out.on hb_); replace HB := Aside0.mk (bl_on HB.out hb_ HB.out.size); replace HS := Aside0.mk (Nat.le_trans HS.out hb_.size); clear hb_) | ((with_reducible refine gate_dst (N := 9) rfl ?_); refine al_pt rfl _ rfl rfl ?_; intro g9 u41 eg_ hn_ hb_; have HXg9 : Aside0 (w.heap.size + 1 ≤ g9) := Aside0.mk (by rw [eg_]; exact HS.out); replace HA := Aside0.mk (HA.out.on hb_); replace HB := Aside0.mk (bl_on HB.out hb_ HB.out.size); replace HS := Aside0.mk (Nat.le_trans HS.out hb_.size); have Hg9 := Aside0.mk hn_; clear hn_ hb_ eg_) | ((with_reducible refine gate_st (y := .tmp 60) rfl ?_); (try simp only [aS]); refine st_pt (x := X) (y := Y) (f := false) Hg9.out rfl _ _ rfl rfl rfl ?_; intro u42 hn_ hb_; replace HA := Aside0.mk (HA.out.but hb_ (by have := HXg9.out; omega)); replace Hg9 := Aside0.mk hn_; replace HB := Aside0.mk (bl_but HB.out hb_ HB.out.size (by have := HXg9.out; omega)); replace HS := Aside0.mk (Nat.le_trans HS.out hb_.size); clear hn_ hb_))
 go_upto_region 8 with (first | ((with_reducible refine gate_dst (N := 64) rfl ?_); refine goesL_ (some 64) rfl rfl Try.func28 (by kernel_rfl) rfl #[.slice A l.length c] rfl (by (try simp only [List.map_toArray, List.map_cons, List.map_nil]); first | done | rfl) ?_; (with_reducible refine (K5.out _ HB.out).mono ?_); rintro e u43 ⟨rfl, hb_⟩; refine ⟨_, rfl, ?_⟩; replace HA := Aside0.mk (HA.out.on hb_); replace Hg9 := Aside0.mk (Hg9.out.on hb_); replace HB := Aside0.mk (bl_on HB.out hb_ HB.out.size); replace HS := Aside0.mk (Nat.le_trans HS.out hb_.size); clear hb_) | ((with_reducible refine gate_dst (N := 11) rfl ?_); refine al_pt rfl _ rfl rfl ?_; intro g11 u44 eg_ hn_ hb_; have HXg11 : Aside0 (w.heap.size + 1 ≤ g11 ∧ g9 < g11) := Aside0.mk (by rw [eg_]; exact ⟨HS.out, Hg9.out.size⟩); replace HA := Aside0.mk (HA.out.on hb_); replace Hg9 := Aside0.mk (Hg9.out.on hb_); replace HB := Aside0.mk (bl_on HB.out hb_ HB.out.size); replace HS := Aside0.mk (Nat.le_trans HS.out hb_.size); have Hg11 := Aside0.mk hn_; clear hn_ hb_ eg_) | ((with_reducible refine gate_st (y := .tmp 65) rfl ?_); (try simp only [aS]); refine st_pt (x := X) (y := Y) (f := false) Hg11.out rfl _ _ rfl rfl rfl ?_; intro u45 hn_ hb_; replace HA := Aside0.mk (HA.out.but hb_ (by have := HXg9.out; have := HXg11.out; omega)); replace Hg9 := Aside0.mk (Hg9.out.but hb_ (by have := HXg9.out; have := HXg11.out; omega)); replace Hg11 := Aside0.mk hn_; replace HB := Aside0.mk (bl_but HB.out hb_ HB.out.size (by have := HXg9.out; have := HXg11.out; omega)); replace HS := Aside0.mk (Nat.le_trans HS.out hb_.size); clear hn_ hb_))
 go_upto_region 10 with (fail)
 go_wp2_with (first | ((with_reducible refine gate_dst (N := 86) rfl ?_); refine ld_ptG Hg9.out (by rfl) _ rfl rfl ?_) | ((with_reducible refine gate_dst (N := 87) rfl ?_); refine ld_ptG Hg11.out (by rfl) _ rfl rfl ?_))
 go_ret
 exact ⟨rfl, HB.out⟩
set_option maxRecDepth 100000 in
set_option maxHeartbeats 8000000 in
theorem pb_false_false_no {x y : Nat} (hx : x < N256) (hy : y < N256) (hon : onB x y false = false) {A : Option Addr} {l : List Nat} {c : Nat} (w : World) (h0 : BAt w A l) (hc : l.length ≤ c) (hp : ¬(l.length = 64 ∧ onB (b2x l) (b2y l) false = true)) :
  Calls Try.prog 8 #[ptV x y false, .slice A l.length c] w fun e w' => e = .returned (.bool true) ∧ Below w.heap.size w w' := by
 have e1 : prV l = .tuple #[ptV 0 0 false, .iface 38 (.int .i64 2)] := by unfold prV; rw [if_neg hp]
 have e2 : rrV l = .tuple #[ptV 0 0 false, .bool false] := by unfold rrV; rw [if_neg hp]
 have hq : ∀ w, (binOp .eql 26 (ptV 0 0 false) (.agg #[.int .u64 0, .int .u64 0, .int .u64 0, .int .u64 0, .int .u64 0, .int .u64 0, .int .u64 0, .int .u64 0, .bool false])).run Try.prog w = .ok (.bool true) w := fun w =>
  eql_pt (x := 0) (y := 0) (x' := 0) (y' := 0) N256_pos N256_pos N256_pos N256_pos false false w
 have hg : ∀ w x_ y_, (eqGuard .eql 26 x_ y_ (ptV 0 0 false) (.agg #[.int .u64 0, .int .u64 0, .int .u64 0, .int .u64 0, .int .u64 0, .int .u64 0, .int .u64 0, .int .u64 0, .bool false])).run Try.prog w = .ok () w := fun w x_ y_ => eqg_pt .eql x_ y_ 0 0 0 0 false false w
 have K1 := Aside0.mk (fun (u : World) => up_calls u)
 have K2 := Aside0.mk (fun (u : World) => pbytes_false_false hx hy hon u)
 have K3 := Aside0.mk (fun (u : World) => rOn_calls hx hy false u)
 have K4 := Aside0.mk (fun (u : World) (h : Below w.heap.size w u) => pparse_calls u (BAt.below h0 h (Nat.le_refl _)) hc)
 have K5 := Aside0.mk (fun (u : World) (h : Below w.heap.size w u) => rparse_calls u (BAt.below h0 h (Nat.le_refl _)) hc)
 rw [e1] at K4
 rw [e2] at K5
 rw [hon] at K3
 clear e1 e2 hp
 clear hx hy hon h0 hc
 go_enter Try.func8, Try.ntmps8
 go_upto_region 1 with (fail)
 refine wp_at (w2 := (World.alloc w (.cells (pw x y false).toArray 26))) rfl ?_
 obtain ⟨x_0, e_0, h_0, b_0, s_0⟩ := new_PtAt w x y false
 rw [e_0]
 have HB : Aside0 (Below w.heap.size w x_0) := Aside0.mk b_0
 have HA : Aside0 (PtAt x_0 (w.heap.size) x y false) := Aside0.mk h_0
 have HS : Aside0 (w.heap.size + 1 ≤ x_0.heap.size) := Aside0.mk (Nat.le_of_eq s_0.symm)
 clear e_0 h_0 b_0 s_0
 obtain ⟨w1, hw_⟩ : ∃ x, x = x_0 := ⟨_, rfl⟩
 subst hw_
 go_upto_region 2 with (first | ((with_reducible refine gate_dst (N := 13) rfl ?_); refine goesL_ (some 13) rfl rfl Try.func9 (by kernel_rfl) rfl #[] rfl (by (try simp only [List.map_toArray, List.map_cons, List.map_nil]); first | done | rfl) ?_; (with_reducible refine (K1.out _).mono ?_); rintro e u46 ⟨rfl, hb_⟩; refine ⟨_, rfl, ?_⟩; replace HA := Aside0.mk (HA.out.on hb_); replace HB := Aside0.mk (bl_on HB.out hb_ HB.out.size); replace HS := Aside0.mk (Nat.le_trans HS.out hb_.size); clear hb_))
 go_upto_region 3 with (first | ((with_reducible refine gate_dst (N := 15) rfl ?_); refine ld_pt HA.out rfl _ rfl rfl ?_) | ((with_reducible refine gate_dst (N := 16) rfl ?_); refine goesL_ (some 16) rfl rfl Try.func25 (by kernel_rfl) rfl #[ptV x y false] rfl (by (try simp only [List.map_toArray, List.map_cons, List.map_nil]); first | done | rfl) ?_; (with_reducible refine (K2.out _).mono ?_); rintro e u47 ⟨rfl, hb_⟩; refine ⟨_, rfl, ?_⟩; replace HA := Aside0.mk (HA.out.on hb_); replace HB := Aside0.mk (bl_on HB.out hb_ HB.out.size); replace HS := Aside0.mk (Nat.le_trans HS.out hb_.size); clear hb_))
 go_upto_region 4 with (first | ((with_reducible refine gate_dst (N := 19) rfl ?_); refine ld_pt HA.out rfl _ rfl rfl ?_) | ((with_reducible refine gate_dst (N := 20) rfl ?_); refine goesL_ (some 20) rfl rfl Try.func13 (by kernel_rfl) rfl #[ptV x y false] rfl (by (try simp only [List.map_toArray, List.map_cons, List.map_nil]); first | done | rfl) ?_; (with_reducible refine (K3.out _).mono ?_); rintro e u48 ⟨rfl, hb_⟩; refine ⟨_, rfl, ?_⟩; replace HA := Aside0.mk (HA.out.on hb_); replace HB := Aside0.mk (bl_on HB.out hb_ HB.out.size); replace HS := Aside0.mk (Nat.le_trans HS.out hb_.size); clear hb_))
 refine start_ (n := 36) (S := fun w' => Below u48.heap.size u48 w') (ds := []) (bs 36 0) (by kernel_rfl) rfl rfl ((Below.refl _ _).drew) (fun hHeld => ?_)
 refine pu_ 0 21 (bs 36 1) ?_ ?_ ?_ ?_ ?_
 rotate_left
 ·intro w'
  go_simp
  with_reducible rfl
 rotate_left
 ·simp only [aS, i64_w, i32_w]
  rfl
 refine pu_ 1 22 (bs 36 3) ?_ ?_ ?_ ?_ ?_
 rotate_left
 ·intro w'
  go_simp
  with_reducible rfl
 rotate_left
 ·simp only [aS, i64_w, i32_w]
  rfl
 refine pv_ 2 23 (bs 36 7) ?_ ?_ ?_
 rotate_left
 ·simp only [aS, i64_w, i32_w]
  rfl
 refine pv_ 3 24 (bs 36 15) ?_ ?_ ?_
 rotate_left
 ·simp only [aS, i64_w, i32_w]
  rfl
 refine pv_ 4 25 (bs 36 31) ?_ ?_ ?_
 rotate_left
 ·simp only [aS, i64_w, i32_w]
  rfl
 refine pu_ 5 26 (bs 36 63) ?_ ?_ ?_ ?_ ?_
 rotate_left
 ·intro w'
  go_simp
  with_reducible rfl
 rotate_left
 ·simp only [aS, i64_w, i32_w]
  rfl
 refine pu_ 6 27 (bs 36 127) ?_ ?_ ?_ ?_ ?_
 rotate_left
 ·intro w'
  go_simp
  with_reducible rfl
 rotate_left
 ·simp only [aS, i64_w, i32_w]
  rfl
 refine pv_ 7 28 (bs 36 255) ?_ ?_ ?_
 rotate_left
 ·simp only [aS, i64_w, i32_w]
  rfl
 refine pv_ 8 29 (bs 36 511) ?_ ?_ ?_
 rotate_left
 ·simp only [aS, i64_w, i32_w]
  rfl
 refine pv_ 9 30 (bs 36 1023) ?_ ?_ ?_
 rotate_left
 ·simp only [aS, i64_w, i32_w]
  rfl
 refine pv_ 10 31 (bs 36 2047) ?_ ?_ ?_
 rotate_left
 ·simp only [aS, i64_w, i32_w]
  rfl
 refine pv_ 11 32 (bs 36 4095) ?_ ?_ ?_
 rotate_left
 ·simp only [aS, i64_w, i32_w]
  rfl
 refine pv_ 12 33 (bs 36 8191) ?_ ?_ ?_
 rotate_left
 ·simp only [aS, i64_w, i32_w]
  rfl
 refine pv_ 13 34 (bs 36 16383) ?_ ?_ ?_
 rotate_left
 ·simp only [aS, i64_w, i32_w]
  rfl
 refine pv_ 14 35 (bs 36 32767) ?_ ?_ ?_
 rotate_left
 ·simp only [aS, i64_w, i32_w]
  rfl
 refine pv_ 15 36 (bs 36 65535) ?_ ?_ ?_
 rotate_left
 ·simp only [aS, i64_w, i32_w]
  rfl
 refine pv_ 16 37 (bs 36 131071) ?_ ?_ ?_
 rotate_left
 ·simp only [aS, i64_w, i32_w]
  rfl
 refine pu_ 17 38 (bs 36 262143) ?_ ?_ ?_ ?_ ?_
 rotate_left
 ·intro w'
  go_simp
  with_reducible rfl
 rotate_left
 ·simp only [aS, i64_w, i32_w]
  rfl
 refine pu_ 18 39 (bs 36 524287) ?_ ?_ ?_ ?_ ?_
 rotate_left
 ·intro w'
  go_simp
  with_reducible rfl
 rotate_left
 ·simp only [aS, i64_w, i32_w]
  rfl
 refine pu_ 19 40 (bs 36 1048575) ?_ ?_ ?_ ?_ ?_
 rotate_left
 ·intro w'
  go_simp
  with_reducible rfl
 rotate_left
 ·simp only [aS, i64_w, i32_w]
  rfl
 refine pu_ 20 41 (bs 36 2097151) ?_ ?_ ?_ ?_ ?_
 rotate_left
 ·intro w'
  go_simp
  with_reducible rfl
 rotate_left
 ·simp only [aS, i64_w, i32_w]
  rfl
 refine pu_ 21 42 (bs 36 4194303) ?_ ?_ ?_ ?_ ?_
 rotate_left
 ·intro w'
  go_simp
  with_reducible rfl
 rotate_left
 ·simp only [aS, i64_w, i32_w]
  rfl
 refine pv_ 22 43 (bs 36 8388607) ?_ ?_ ?_
 rotate_left
 ·simp only [aS, i64_w, i32_w]
  rfl
 refine pv_ 23 44 (bs 36 16777215) ?_ ?_ ?_
 rotate_left
 ·simp only [aS, i64_w, i32_w]
  rfl
 refine pu_ 24 45 (bs 36 33554431) ?_ ?_ ?_ ?_ ?_
 rotate_left
 ·intro w'
  go_simp
  with_reducible rfl
 rotate_left
 ·simp only [aS, i64_w, i32_w]
  rfl
 refine pu_ 25 46 (bs 36 67108863) ?_ ?_ ?_ ?_ ?_
 rotate_left
 ·intro w'
  go_simp
  with_reducible rfl
 rotate_left
 ·simp only [aS, i64_w, i32_w]
  rfl
 refine pu_ 26 47 (bs 36 134217727) ?_ ?_ ?_ ?_ ?_
 rotate_left
 ·intro w'
  go_simp
  with_reducible rfl
 rotate_left
 ·simp only [aS, i64_w, i32_w]
  rfl
 refine pu_ 27 48 (bs 36 268435455) ?_ ?_ ?_ ?_ ?_
 rotate_left
 ·intro w'
  go_simp
  with_reducible rfl
 rotate_left
 ·simp only [aS, i64_w, i32_w]
  rfl
 refine pu_ 28 49 (bs 36 536870911) ?_ ?_ ?_ ?_ ?_
 rotate_left
 ·intro w'
  go_simp
  with_reducible rfl
 rotate_left
 ·simp only [aS, i64_w, i32_w]
  rfl
 refine pu_ 29 50 (bs 36 1073741823) ?_ ?_ ?_ ?_ ?_
 rotate_left
 ·intro w'
  go_simp
  with_reducible rfl
 rotate_left
 ·simp only [aS, i64_w, i32_w]
  rfl
 refine pu_ 30 51 (bs 36 2147483647) ?_ ?_ ?_ ?_ ?_
 rotate_left
 ·intro w'
  go_simp
  with_reducible rfl
 rotate_left
 ·simp only [aS, i64_w, i32_w]
  rfl
 refine pu_ 31 52 (bs 36 4294967295) ?_ ?_ ?_ ?_ ?_
 rotate_left
 ·intro w'
  go_simp
  with_reducible rfl
 rotate_left
 ·simp only [aS, i64_w, i32_w]
  rfl
 refine pu_ 32 53 (bs 36 8589934591) ?_ ?_ ?_ ?_ ?_
 rotate_left
 ·intro w'
  go_simp
  with_reducible rfl
 rotate_left
 ·simp only [aS, i64_w, i32_w]
  rfl
 refine pu_ 33 54 (bs 36 17179869183) ?_ ?_ ?_ ?_ ?_
 rotate_left
 ·intro w'
  go_simp
  with_reducible rfl
 rotate_left
 ·simp only [aS, i64_w, i32_w]
  rfl
 refine pu_ 34 55 (bs 36 34359738367) ?_ ?_ ?_ ?_ ?_
 rotate_left
 ·intro w'
  go_simp
  with_reducible rfl
 rotate_left
 ·simp only [aS, i64_w, i32_w]
  rfl
 refine pu_ 35 56 (bs 36 68719476735) ?_ ?_ ?_ ?_ ?_
 rotate_left
 ·intro w'
  go_simp
  with_reducible rfl
 rotate_left
 ·simp only [aS, i64_w, i32_w]
  rfl
 refine done_ (by kernel_rfl) ?_
 replace HA := Aside0.mk (HA.out.on hHeld)
 replace HB := Aside0.mk (bl_on HB.out hHeld HB.out.size)
 replace HS := Aside0.mk (Nat.le_trans HS.out hHeld.size)
 clear hHeld
 go_upto_region 7 with (first | ((with_reducible refine gate_dst (N := 59) rfl ?_); refine goesL_ (some 59) rfl rfl Try.func27 (by kernel_rfl) rfl #[.slice A l.length c] rfl (by (try simp only [List.map_toArray, List.map_cons, List.map_nil]); first | done | rfl) ?_; (with_reducible refine (K4.out _ HB.out).mono ?_); rintro e u49 ⟨rfl, hb_⟩; refine ⟨_, rfl, ?_⟩; replace HA := Aside0.mk (HA.out.on hb_); replace HB := Aside0.mk (bl_on HB.out hb_ HB.out.size); replace HS := Aside0.mk (Nat.le_trans HS.out hb_.size); clear hb_) | ((with_reducible refine gate_dst (N := 9) rfl ?_); refine al_pt rfl _ rfl rfl ?_; intro g9 u50 eg_ hn_ hb_; have HXg9 : Aside0 (w.heap.size + 1 ≤ g9) := Aside0.mk (by rw [eg_]; exact HS.out); replace HA := Aside0.mk (HA.out.on hb_); replace HB := Aside0.mk (bl_on HB.out hb_ HB.out.size); replace HS := Aside0.mk (Nat.le_trans HS.out hb_.size); have Hg9 := Aside0.mk hn_; clear hn_ hb_ eg_) | ((with_reducible refine gate_st (y := .tmp 60) rfl ?_); (try simp only [aS]); refine st_pt (x := 0) (y := 0) (f := false) Hg9.out rfl _ _ rfl rfl rfl ?_; intro u51 hn_ hb_; replace HA := Aside0.mk (HA.out.but hb_ (by have := HXg9.out; omega)); replace Hg9 := Aside0.mk hn_; replace HB := Aside0.mk (bl_but HB.out hb_ HB.out.size (by have := HXg9.out; omega)); replace HS := Aside0.mk (Nat.le_trans HS.out hb_.size); clear hn_ hb_))
 go_upto_region 8 with (first | ((with_reducible refine gate_dst (N := 64) rfl ?_); refine goesL_ (some 64) rfl rfl Try.func28 (by kernel_rfl) rfl #[.slice A l.length c] rfl (by (try simp only [List.map_toArray, List.map_cons, List.map_nil]); first | done | rfl) ?_; (with_reducible refine (K5.out _ HB.out).mono ?_); rintro e u52 ⟨rfl, hb_⟩; refine ⟨_, rfl, ?_⟩; replace HA := Aside0.mk (HA.out.on hb_); replace Hg9 := Aside0.mk (Hg9.out.on hb_); replace HB := Aside0.mk (bl_on HB.out hb_ HB.out.size); replace HS := Aside0.mk (Nat.le_trans HS.out hb_.size); clear hb_) | ((with_reducible refine gate_dst (N := 11) rfl ?_); refine al_pt rfl _ rfl rfl ?_; intro g11 u53 eg_ hn_ hb_; have HXg11 : Aside0 (w.heap.size + 1 ≤ g11 ∧ g9 < g11) := Aside0.mk (by rw [eg_]; exact ⟨HS.out, Hg9.out.size⟩); replace HA := Aside0.mk (HA.out.on hb_); replace Hg9 := Aside0.mk (Hg9.out.on hb_); replace HB := Aside0.mk (bl_on HB.out hb_ HB.out.size); replace HS := Aside0.mk (Nat.le_trans HS.out hb_.size); have Hg11 := Aside0.mk hn_; clear hn_ hb_ eg_) | ((with_reducible refine gate_st (y := .tmp 65) rfl ?_); (try simp only [aS]); refine st_pt (x := 0) (y := 0) (f := false) Hg11.out rfl _ _ rfl rfl rfl ?_; intro u54 hn_ hb_; replace HA := Aside0.mk (HA.out.but hb_ (by have := HXg9.out; have := HXg11.out; omega)); replace Hg9 := Aside0.mk (Hg9.out.but hb_ (by have := HXg9.out; have := HXg11.out; omega)); replace Hg11 := Aside0.mk hn_; replace HB := Aside0.mk (bl_but HB.out hb_ HB.out.size (by have := HXg9.out; have := HXg11.out; omega)); replace HS := Aside0.mk (Nat.le_trans HS.out hb_.size); clear hn_ hb_))
 go_upto_region 9 with (fail)
 go_wp2_with (first | ((with_reducible refine gate_dst (N := 76) rfl ?_); refine ld_ptG Hg9.out (by rfl) _ rfl rfl ?_))
 go_ret
 exact ⟨rfl, HB.out⟩
set_option maxRecDepth 100000 in
set_option maxHeartbeats 8000000 in
theorem pb_false_true_is {x y : Nat} (hx : x < N256) (hy : y < N256) (hon : onB x y true = false) {A : Option Addr} {l : List Nat} {c : Nat} (w : World) (h0 : BAt w A l) (hc : l.length ≤ c) (hp : (l.length = 64 ∧ onB (b2x l) (b2y l) false = true)) :
  Calls Try.prog 8 #[ptV x y true, .slice A l.length c] w fun e w' => e = .returned (.bool true) ∧ Below w.heap.size w w' := by
 have e1 : prV l = .tuple #[ptV (b2x l) (b2y l) false, .nilIface] := by unfold prV; rw [if_pos hp]
 have e2 : rrV l = .tuple #[ptV (b2x l) (b2y l) false, .bool true] := by unfold rrV; rw [if_pos hp]
 have hX : b2x l < N256 := lt_N (onB_lt hp.2).1
 have hY : b2y l < N256 := lt_N (onB_lt hp.2).2
 have hq := fun w => eql_pt hX hY hX hY false false w
 rw [decide_eq_true ⟨rfl, rfl, rfl⟩] at hq
 have hg := fun w x_ y_ => eqg_pt .eql x_ y_ (b2x l) (b2y l) (b2x l) (b2y l) false false w
 have K1 := Aside0.mk (fun (u : World) => up_calls u)
 have K2 := Aside0.mk (fun (u : World) => pbytes_false_true hx hy hon u)
 have K3 := Aside0.mk (fun (u : World) => rOn_calls hx hy true u)
 have K4 := Aside0.mk (fun (u : World) (h : Below w.heap.size w u) => pparse_calls u (BAt.below h0 h (Nat.le_refl _)) hc)
 have K5 := Aside0.mk (fun (u : World) (h : Below w.heap.size w u) => rparse_calls u (BAt.below h0 h (Nat.le_refl _)) hc)
 rw [e1] at K4
 rw [e2] at K5
 rw [hon] at K3
 clear e1 e2 hp hX hY
 generalize b2x l = X at *
 generalize b2y l = Y at *
 clear hx hy hon h0 hc
 go_enter Try.func8, Try.ntmps8
 go_upto_region 1 with (fail)
 refine wp_at (w2 := (World.alloc w (.cells (pw x y true).toArray 26))) rfl ?_
 obtain ⟨x_0, e_0, h_0, b_0, s_0⟩ := new_PtAt w x y true
 rw [e_0]
 have HB : Aside0 (Below w.heap.size w x_0) := Aside0.mk b_0
 have HA : Aside0 (PtAt x_0 (w.heap.size) x y true) := Aside0.mk h_0
 have HS : Aside0 (w.heap.size + 1 ≤ x_0.heap.size) := Aside0.mk (Nat.le_of_eq s_0.symm)
 clear e_0 h_0 b_0 s_0
 obtain ⟨w1, hw_⟩ : ∃ x, x = x_0 := ⟨_, rfl⟩
 subst hw_
 go_upto_region 2 with (first | ((with_reducible refine gate_dst (N := 13) rfl ?_); refine goesL_ (some 13) rfl rfl Try.func9 (by kernel_rfl) rfl #[] rfl (by (try simp only [List.map_toArray, List.map_cons, List.map_nil]); first | done | rfl) ?_; (with_reducible refine (K1.out _).mono ?_); rintro e u55 ⟨rfl, hb_⟩; refine ⟨_, rfl, ?_⟩; replace HA := Aside0.mk (HA.out.on hb_); replace HB := Aside0.mk (bl_on HB.out hb_ HB.out.size); replace HS := Aside0.mk (Nat.le_trans HS.out hb_.size); clear hb_))
 go_upto_region 3 with (first | ((with_reducible refine gate_dst (N := 15) rfl ?_); refine ld_pt HA.out rfl _ rfl rfl ?_) | ((with_reducible refine gate_dst (N := 16) rfl ?_); refine goesL_ (some 16) rfl rfl Try.func25 (by kernel_rfl) rfl #[ptV x y true] rfl (by (try simp only [List.map_toArray, List.map_cons, List.map_nil]); first | done | rfl) ?_; (with_reducible refine (K2.out _).mono ?_); rintro e u56 ⟨rfl, hb_⟩; refine ⟨_, rfl, ?_⟩; replace HA := Aside0.mk (HA.out.on hb_); replace HB := Aside0.mk (bl_on HB.out hb_ HB.out.size); replace HS := Aside0.mk (Nat.le_trans HS.out hb_.size); clear hb_))
 go_upto_region 4 with (first | ((with_reducible refine gate_dst (N := 19) rfl ?_); refine ld_pt HA.out rfl _ rfl rfl ?_) | ((with_reducible refine gate_dst (N := 20) rfl ?_); refine goesL_ (some 20) rfl rfl Try.func13 (by kernel_rfl) rfl #[ptV x y true] rfl (by (try simp only [List.map_toArray, List.map_cons, List.map_nil]); first | done | rfl) ?_; (with_reducible refine (K3.out _).mono ?_); rintro e u57 ⟨rfl, hb_⟩; refine ⟨_, rfl, ?_⟩; replace HA := Aside0.mk (HA.out.on hb_); replace HB := Aside0.mk (bl_on HB.out hb_ HB.out.size); replace HS := Aside0.mk (Nat.le_trans HS.out hb_.size); clear hb_))
 refine start_ (n := 36) (S := fun w' => Below u57.heap.size u57 w') (ds := []) (bs 36 0) (by kernel_rfl) rfl rfl ((Below.refl _ _).drew) (fun hHeld => ?_)
 refine pu_ 0 21 (bs 36 1) ?_ ?_ ?_ ?_ ?_
 rotate_left
 ·intro w'
  go_simp
  with_reducible rfl
 rotate_left
 ·simp only [aS, i64_w, i32_w]
  rfl
 refine pu_ 1 22 (bs 36 3) ?_ ?_ ?_ ?_ ?_
 rotate_left
 ·intro w'
  go_simp
  with_reducible rfl
 rotate_left
 ·simp only [aS, i64_w, i32_w]
  rfl
 refine pv_ 2 23 (bs 36 7) ?_ ?_ ?_
 rotate_left
 ·simp only [aS, i64_w, i32_w]
  rfl
 refine pv_ 3 24 (bs 36 15) ?_ ?_ ?_
 rotate_left
 ·simp only [aS, i64_w, i32_w]
  rfl
 refine pv_ 4 25 (bs 36 31) ?_ ?_ ?_
 rotate_left
 ·simp only [aS, i64_w, i32_w]
  rfl
 refine pu_ 5 26 (bs 36 63) ?_ ?_ ?_ ?_ ?_
 rotate_left
 ·intro w'
  go_simp
  with_reducible rfl
 rotate_left
 ·simp only [aS, i64_w, i32_w]
  rfl
 refine pu_ 6 27 (bs 36 127) ?_ ?_ ?_ ?_ ?_
 rotate_left
 ·intro w'
  go_simp
  with_reducible rfl
 rotate_left
 ·simp only [aS, i64_w, i32_w]
  rfl
 refine pv_ 7 28 (bs 36 255) ?_ ?_ ?_
 rotate_left
 ·simp only [aS, i64_w, i32_w]
  rfl
 refine pv_ 8 29 (bs 36 511) ?_ ?_ ?_
 rotate_left
 ·simp only [aS, i64_w, i32_w]
  rfl
 refine pv_ 9 30 (bs 36 1023) ?_ ?_ ?_
 rotate_left
 ·simp only [aS, i64_w, i32_w]
  rfl
 refine pv_ 10 31 (bs 36 2047) ?_ ?_ ?_
 rotate_left
 ·simp only [aS, i64_w, i32_w]
  rfl
 refine pv_ 11 32 (bs 36 4095) ?_ ?_ ?_
 rotate_left
 ·simp only [aS, i64_w, i32_w]
  rfl
 refine pv_ 12 33 (bs 36 8191) ?_ ?_ ?_
 rotate_left
 ·simp only [aS, i64_w, i32_w]
  rfl
 refine pv_ 13 34 (bs 36 16383) ?_ ?_ ?_
 rotate_left
 ·simp only [aS, i64_w, i32_w]
  rfl
 refine pv_ 14 35 (bs 36 32767) ?_ ?_ ?_
 rotate_left
 ·simp only [aS, i64_w, i32_w]
  rfl
 refine pv_ 15 36 (bs 36 65535) ?_ ?_ ?_
 rotate_left
 ·simp only [aS, i64_w, i32_w]
  rfl
 refine pv_ 16 37 (bs 36 131071) ?_ ?_ ?_
 rotate_left
 ·simp only [aS, i64_w, i32_w]
  rfl
 refine pu_ 17 38 (bs 36 262143) ?_ ?_ ?_ ?_ ?_
 rotate_left
 ·intro w'
  go_simp
  with_reducible rfl
 rotate_left
 ·simp only [aS, i64_w, i32_w]
  rfl
 refine pu_ 18 39 (bs 36 524287) ?_ ?_ ?_ ?_ ?_
 rotate_left
 ·intro w'
  go_simp
  with_reducible rfl
 rotate_left
 ·simp only [aS, i64_w, i32_w]
  rfl
 refine pu_ 19 40 (bs 36 1048575) ?_ ?_ ?_ ?_ ?_
 rotate_left
 ·intro w'
  go_simp
  with_reducible rfl
 rotate_left
 ·simp only [aS, i64_w, i32_w]
  rfl
 refine pu_ 20 41 (bs 36 2097151) ?_ ?_ ?_ ?_ ?_
 rotate_left
 ·intro w'
  go_simp
  with_reducible rfl
 rotate_left
 ·simp only [aS, i64_w, i32_w]
  rfl
 refine pu_ 21 42 (bs 36 4194303) ?_ ?_ ?_ ?_ ?_
 rotate_left
 ·intro w'
  go_simp
  with_reducible rfl
 rotate_left
 ·simp only [aS, i64_w, i32_w]
  rfl
 refine pv_ 22 43 (bs 36 8388607) ?_ ?_ ?_
 rotate_left
 ·simp only [aS, i64_w, i32_w]
  rfl
 refine pv_ 23 44 (bs 36 16777215) ?_ ?_ ?_
 rotate_left
 ·simp only [aS, i64_w, i32_w]
  rfl
 refine pu_ 24 45 (bs 36 33554431) ?_ ?_ ?_ ?_ ?_
 rotate_left
 ·intro w'
  go_simp
  with_reducible rfl
 rotate_left
 ·simp only [aS, i64_w, i32_w]
  rfl
 refine pu_ 25 46 (bs 36 67108863) ?_ ?_ ?_ ?_ ?_
 rotate_left
 ·intro w'
  go_simp
  with_reducible rfl
 rotate_left
 ·simp only [aS, i64_w, i32_w]
  rfl
 refine pu_ 26 47 (bs 36 134217727) ?_ ?_ ?_ ?_ ?_
 rotate_left
 ·intro w'
  go_simp
  with_reducible rfl
 rotate_left
 ·simp only [aS, i64_w, i32_w]
  rfl
 refine pu_ 27 48 (bs 36 268435455) ?_ ?_ ?_ ?_ ?_
 rotate_left
 ·intro w'
  go_simp
  with_reducible rfl
 rotate_left
 ·simp only [aS, i64_w, i32_w]
  rfl
 refine pu_ 28 49 (bs 36 536870911) ?_ ?_ ?_ ?_ ?_
 rotate_left
 ·intro w'
  go_simp
  with_reducible rfl
 rotate_left
 ·simp only [aS, i64_w, i32_w]
  rfl
 refine pu_ 29 50 (bs 36 1073741823) ?_ ?_ ?_ ?_ ?_
 rotate_left
 ·intro w'
  go_simp
  with_reducible rfl
 rotate_left
 ·simp only [aS, i64_w, i32_w]
  rfl
 refine pu_ 30 51 (bs 36 2147483647) ?_ ?_ ?_ ?_ ?_
 rotate_left
 ·intro w'
  go_simp
  with_reducible rfl
 rotate_left
 ·simp only [aS, i64_w, i32_w]
  rfl
 refine pu_ 31 52 (bs 36 4294967295) ?_ ?_ ?_ ?_ ?_
 rotate_left
 ·intro w'
  go_simp
  with_reducible rfl
 rotate_left
 ·simp only [aS, i64_w, i32_w]
  rfl
 refine pu_ 32 53 (bs 36 8589934591) ?_ ?_ ?_ ?_ ?_
 rotate_left
 ·intro w'
  go_simp
  with_reducible rfl
 rotate_left
 ·simp only [aS, i64_w, i32_w]
  rfl
 refine pu_ 33 54 (bs 36 17179869183) ?_ ?_ ?_ ?_ ?_
 rotate_left
 ·intro w'
  go_simp
  with_reducible rfl
 rotate_left
 ·simp only [aS, i64_w, i32_w]
  rfl
 refine pu_ 34 55 (bs 36 34359738367) ?_ ?_ ?_ ?_ ?_
 rotate_left
 ·intro w'
  go_simp
  with_reducible rfl
 rotate_left
 ·simp only [aS, i64_w, i32_w]
  rfl
 refine pu_ 35 56 (bs 36 68719476735) ?_ ?_ ?_ ?_ ?_
 rotate_left
 ·intro w'
  go_simp
  with_reducible rfl
 rotate_left
 ·simp only [aS, i64_w, i32_w]
  rfl
 refine done_ (by kernel_rfl) ?_
 replace HA := Aside0.mk (HA.out.on hHeld)
 replace HB := Aside0.mk (bl_on HB.out hHeld HB.out.size)
 replace HS := Aside0.mk (Nat.le_trans HS.out hHeld.size)
 clear hHeld
 go_upto_region 7 with (first | ((with_reducible refine gate_dst (N := 59) rfl ?_); refine goesL_ (some 59) rfl rfl Try.func27 (by kernel_rfl) rfl #[.slice A l.length c] rfl (by (try simp only [List.map_toArray, List.map_cons, List.map_nil]); first | done | rfl) ?_; (with_reducible refine (K4.out _ HB.out).mono ?_); rintro e u58 ⟨rfl, hb_⟩; refine ⟨_, rfl, ?_⟩; replace HA := Aside0.mk (HA.out.on hb_); replace HB := Aside0.mk (bl_on HB.out hb_ HB.out.size); replace HS := Aside0.mk (Nat.le_trans HS.out hb_.size); clear hb_) | ((with_reducible refine gate_dst (N := 9) rfl ?_); refine al_pt rfl _ rfl rfl ?_; intro g9 u59 eg_ hn_ hb_; have HXg9 : Aside0 (w.heap.size + 1 ≤ g9) := Aside0.mk (by rw [eg_]; exact HS.out); replace HA := Aside0.mk (HA.out.on hb_); replace HB := Aside0.mk (bl_on HB.out hb_ HB.out.size); replace HS := Aside0.mk (Nat.le_trans HS.out hb_.size); have Hg9 := Aside0.mk hn_; clear hn_ hb_ eg_) | ((with_reducible refine gate_st (y := .tmp 60) rfl ?_); (try simp only [aS]); refine st_pt (x := X) (y := Y) (f := false) Hg9.out rfl _ _ rfl rfl rfl ?_; intro u60 hn_ hb_; replace HA := Aside0.mk (HA.out.but hb_ (by have := HXg9.out; omega)); replace Hg9 := Aside0.mk hn_; replace HB := Aside0.mk (bl_but HB.out hb_ HB.out.size (by have := HXg9.out; omega)); replace HS := Aside0.mk (Nat.le_trans HS.out hb_.size); clear hn_ hb_))
 go_upto_region 8 with (first | ((with_reducible refine gate_dst (N := 64) rfl ?_); refine goesL_ (some 64) rfl rfl Try.func28 (by kernel_rfl) rfl #[.slice A l.length c] rfl (by (try simp only [List.map_toArray, List.map_cons, List.map_nil]); first | done | rfl) ?_; (with_reducible refine (K5.out _ HB.out).mono ?_); rintro e u61 ⟨rfl, hb_⟩; refine ⟨_, rfl, ?_⟩; replace HA := Aside0.mk (HA.out.on hb_); replace Hg9 := Aside0.mk (Hg9.out.on hb_); replace HB := Aside0.mk (bl_on HB.out hb_ HB.out.size); replace HS := Aside0.mk (Nat.le_trans HS.out hb_.size); clear hb_) | ((with_reducible refine gate_dst (N := 11) rfl ?_); refine al_pt rfl _ rfl rfl ?_; intro g11 u62 eg_ hn_ hb_; have HXg11 : Aside0 (w.heap.size + 1 ≤ g11 ∧ g9 < g11) := Aside0.mk (by rw [eg_]; exact ⟨HS.out, Hg9.out.size⟩); replace HA := Aside0.mk (HA.out.on hb_); replace Hg9 := Aside0.mk (Hg9.out.on hb_); replace HB := Aside0.mk (bl_on HB.out hb_ HB.out.size); replace HS := Aside0.mk (Nat.le_trans HS.out hb_.size); have Hg11 := Aside0.mk hn_; clear hn_ hb_ eg_) | ((with_reducible refine gate_st (y := .tmp 65) rfl ?_); (try simp only [aS]); refine st_pt (x := X) (y := Y) (f := false) Hg11.out rfl _ _ rfl rfl rfl ?_; intro u63 hn_ hb_; replace HA := Aside0.mk (HA.out.but hb_ (by have := HXg9.out; have := HXg11.out; omega)); replace Hg9 := Aside0.mk (Hg9.out.but hb_ (by have := HXg9.out; have := HXg11.out; omega)); replace Hg11 := Aside0.mk hn_; replace HB := Aside0.mk (bl_but HB.out hb_ HB.out.size (by have := HXg9.out; have := HXg11.out; omega)); replace HS := Aside0.mk (Nat.le_trans HS.out hb_.size); clear hn_ hb_))
 go_upto_region 10 with (fail)
 go_wp2_with (first | ((with_reducible refine gate_dst (N := 86) rfl ?_); refine ld_ptG Hg9.out (by rfl) _ rfl rfl ?_) | ((with_reducible refine gate_dst (N := 87) rfl ?_); refine ld_ptG Hg11.out (by rfl) _ rfl rfl ?_))
 go_ret
 exact ⟨rfl, HB.out⟩
set_option maxRecDepth 100000 in
set_option maxHeartbeats 8000000 in
theorem pb_false_true_no {x y : Nat} (hx : x < N256) (hy : y < N256) (hon : onB x y true = false) {A : Option Addr} {l : List Nat} {c : Nat} (w : World) (h0 : BAt w A l) (hc : l.length ≤ c) (hp : ¬(l.length = 64 ∧ onB (b2x l) (b2y l) false = true)) :
  Calls Try.prog 8 #[ptV x y true, .slice A l.length c] w fun e w' => e = .returned (.bool true) ∧ Below w.heap.size w w' := by
 have e1 : prV l = .tuple #[ptV 0 0 false, .iface 38 (.int .i64 2)] := by unfold prV; rw [if_neg hp]
 have e2 : rrV l = .tuple #[ptV 0 0 false, .bool false] := by unfold rrV; rw [if_neg hp]
 have hq : ∀ w, (binOp .eql 26 (ptV 0 0 false) (.agg #[.int .u64 0, .int .u64 0, .int .u64 0, .int .u64 0, .int .u64 0, .int .u64 0, .int .u64 0, .int .u64 0, .bool false])).run Try.prog w = .ok (.bool true) w := fun w =>
  eql_pt (x := 0) (y := 0) (x' := 0) (y' := 0) N256_pos N256_pos N256_pos N256_pos false false w
 have hg : ∀ w x_ y_, (eqGuard .eql 26 x_ y_ (ptV 0 0 false) (.agg #[.int .u64 0, .int .u64 0, .int .u64 0, .int .u64 0, .int .u64 0, .int .u64 0, .int .u64 0, .int .u64 0, .bool false])).run Try.prog w = .ok () w := fun w x_ y_ => eqg_pt .eql x_ y_ 0 0 0 0 false false w
 have K1 := Aside0.mk (fun (u : World) => up_calls u)
 have K2 := Aside0.mk (fun (u : World) => pbytes_false_true hx hy hon u)
 have K3 := Aside0.mk (fun (u : World) => rOn_calls hx hy true u)
 have K4 := Aside0.mk (fun (u : World) (h : Below w.heap.size w u) => pparse_calls u (BAt.below h0 h (Nat.le_refl _)) hc)
 have K5 := Aside0.mk (fun (u : World) (h : Below w.heap.size w u) => rparse_calls u (BAt.below h0 h (Nat.le_refl _)) hc)
 rw [e1] at K4
 rw [e2] at K5
 rw [hon] at K3
 clear e1 e2 hp
 clear hx hy hon h0 hc
 go_enter Try.func8, Try.ntmps8
 go_upto_region 1 with (fail)
 refine wp_at (w2 := (World.alloc w (.cells (pw x y true).toArray 26))) rfl ?_
 obtain ⟨x_0, e_0, h_0, b_0, s_0⟩ := new_PtAt w x y true
 rw [e_0]
 have HB : Aside0 (Below w.heap.size w x_0) := Aside0.mk b_0
 have HA : Aside0 (PtAt x_0 (w.heap.size) x y true) := Aside0.mk h_0
 have HS : Aside0 (w.heap.size + 1 ≤ x_0.heap.size) := Aside0.mk (Nat.le_of_eq s_0.symm)
 clear e_0 h_0 b_0 s_0
 obtain ⟨w1, hw_⟩ : ∃ x, x = x_0 := ⟨_, rfl⟩
 subst hw_
 go_upto_region 2 with (first | ((with_reducible refine gate_dst (N := 13) rfl ?_); refine goesL_ (some 13) rfl rfl Try.func9 (by kernel_rfl) rfl #[] rfl (by (try simp only [List.map_toArray, List.map_cons, List.map_nil]); first | done | rfl) ?_; (with_reducible refine (K1.out _).mono ?_); rintro e u64 ⟨rfl, hb_⟩; refine ⟨_, rfl, ?_⟩; replace HA := Aside0.mk (HA.out.on hb_); replace HB := Aside0.mk (bl_on HB.out hb_ HB.out.size); replace HS := Aside0.mk (Nat.le_trans HS.out hb_.size); clear hb_))
 go_upto_region 3 with (first | ((with_reducible refine gate_dst (N := 15) rfl ?_); refine ld_pt HA.out rfl _ rfl rfl ?_) | ((with_reducible refine gate_dst (N := 16) rfl ?_); refine goesL_ (some 16) rfl rfl Try.func25 (by kernel_rfl) rfl #[ptV x y true] rfl (by (try simp only [List.map_toArray, List.map_cons, List.map_nil]); first | done | rfl) ?_; (with_reducible refine (K2.out _).mono ?_); rintro e u65 ⟨rfl, hb_⟩; refine ⟨_, rfl, ?_⟩; replace HA := Aside0.mk (HA.out.on hb_); replace HB := Aside0.mk (bl_on HB.out hb_ HB.out.size); replace HS := Aside0.mk (Nat.le_trans HS.out hb_.size); clear hb_))
 go_upto_region 4 with (first | ((with_reducible refine gate_dst (N := 19) rfl ?_); refine ld_pt HA.out rfl _ rfl rfl ?_) | ((with_reducible refine gate_dst (N := 20) rfl ?_); refine goesL_ (some 20) rfl rfl Try.func13 (by kernel_rfl) rfl #[ptV x y true] rfl (by (try simp only [List.map_toArray, List.map_cons, List.map_nil]); first | done | rfl) ?_; (with_reducible refine (K3.out _).mono ?_); rintro e u66 ⟨rfl, hb_⟩; refine ⟨_, rfl, ?_⟩; replace HA := Aside0.mk (HA.out.on hb_); replace HB := Aside0.mk (bl_on HB.out hb_ HB.out.size); replace HS := Aside0.mk (Nat.le_trans HS.out hb_.size); clear hb_))
 refine start_ (n := 36) (S := fun w' => Below u66.heap.size u66 w') (ds := []) (bs 36 0) (by kernel_rfl) rfl rfl ((Below.refl _ _).drew) (fun hHeld => ?_)
 refine pu_ 0 21 (bs 36 1) ?_ ?_ ?_ ?_ ?_
 rotate_left
 ·intro w'
  go_simp
  with_reducible rfl
 rotate_left
 ·simp only [aS, i64_w, i32_w]
  rfl
 refine pu_ 1 22 (bs 36 3) ?_ ?_ ?_ ?_ ?_
 rotate_left
 ·intro w'
  go_simp
  with_reducible rfl
 rotate_left
 ·simp only [aS, i64_w, i32_w]
  rfl
 refine pv_ 2 23 (bs 36 7) ?_ ?_ ?_
 rotate_left
 ·simp only [aS, i64_w, i32_w]
  rfl
 refine pv_ 3 24 (bs 36 15) ?_ ?_ ?_
 rotate_left
 ·simp only [aS, i64_w, i32_w]
  rfl
 refine pv_ 4 25 (bs 36 31) ?_ ?_ ?_
 rotate_left
 ·simp only [aS, i64_w, i32_w]
  rfl
 refine pu_ 5 26 (bs 36 63) ?_ ?_ ?_ ?_ ?_
 rotate_left
 ·intro w'
  go_simp
  with_reducible rfl
 rotate_left
 ·simp only [aS, i64_w, i32_w]
  rfl
 refine pu_ 6 27 (bs 36 127) ?_ ?_ ?_ ?_ ?_
 rotate_left
 ·intro w'
  go_simp
  with_reducible rfl
 rotate_left
 ·simp only [aS, i64_w, i32_w]
  rfl
 refine pv_ 7 28 (bs 36 255) ?_ ?_ ?_
 rotate_left
 ·simp only [aS, i64_w, i32_w]
  rfl
 refine pv_ 8 29 (bs 36 511) ?_ ?_ ?_
 rotate_left
 ·simp only [aS, i64_w, i32_w]
  rfl
 refine pv_ 9 30 (bs 36 1023) ?_ ?_ ?_
 rotate_left
 ·simp only [aS, i64_w, i32_w]
  rfl
 refine pv_ 10 31 (bs 36 2047) ?_ ?_ ?_
 rotate_left
 ·simp only [aS, i64_w, i32_w]
  rfl
 refine pv_ 11 32 (bs 36 4095) ?_ ?_ ?_
 rotate_left
 ·simp only [aS, i64_w, i32_w]
  rfl
 refine pv_ 12 33 (bs 36 8191) ?_ ?_ ?_
 rotate_left
 ·simp only [aS, i64_w, i32_w]
  rfl
 refine pv_ 13 34 (bs 36 16383) ?_ ?_ ?_
 rotate_left
 ·simp only [aS, i64_w, i32_w]
  rfl
 refine pv_ 14 35 (bs 36 32767) ?_ ?_ ?_
 rotate_left
 ·simp only [aS, i64_w, i32_w]
  rfl
 refine pv_ 15 36 (bs 36 65535) ?_ ?_ ?_
 rotate_left
 ·simp only [aS, i64_w, i32_w]
  rfl
 refine pv_ 16 37 (bs 36 131071) ?_ ?_ ?_
 rotate_left
 ·simp only [aS, i64_w, i32_w]
  rfl
 refine pu_ 17 38 (bs 36 262143) ?_ ?_ ?_ ?_ ?_
 rotate_left
 ·intro w'
  go_simp
  with_reducible rfl
 rotate_left
 ·simp only [aS, i64_w, i32_w]
  rfl
 refine pu_ 18 39 (bs 36 524287) ?_ ?_ ?_ ?_ ?_
 rotate_left
 ·intro w'
  go_simp
  with_reducible rfl
 rotate_left
 ·simp only [aS, i64_w, i32_w]
  rfl
 refine pu_ 19 40 (bs 36 1048575) ?_ ?_ ?_ ?_ ?_
 rotate_left
 ·intro w'
  go_simp
  with_reducible rfl
 rotate_left
 ·simp only [aS, i64_w, i32_w]
  rfl
 refine pu_ 20 41 (bs 36 2097151) ?_ ?_ ?_ ?_ ?_
 rotate_left
 ·intro w'
  go_simp
  with_reducible rfl
 rotate_left
 ·simp only [aS, i64_w, i32_w]
  rfl
 refine pu_ 21 42 (bs 36 4194303) ?_ ?_ ?_ ?_ ?_
 rotate_left
 ·intro w'
  go_simp
  with_reducible rfl
 rotate_left
 ·simp only [aS, i64_w, i32_w]
  rfl
 refine pv_ 22 43 (bs 36 8388607) ?_ ?_ ?_
 rotate_left
 ·simp only [aS, i64_w, i32_w]
  rfl
 refine pv_ 23 44 (bs 36 16777215) ?_ ?_ ?_
 rotate_left
 ·simp only [aS, i64_w, i32_w]
  rfl
 refine pu_ 24 45 (bs 36 33554431) ?_ ?_ ?_ ?_ ?_
 rotate_left
 ·intro w'
  go_simp
  with_reducible rfl
 rotate_left
 ·simp only [aS, i64_w, i32_w]
  rfl
 refine pu_ 25 46 (bs 36 67108863) ?_ ?_ ?_ ?_ ?_
 rotate_left
 ·intro w'
  go_simp
  with_reducible rfl
 rotate_left
 ·simp only [aS, i64_w, i32_w]
  rfl
 refine pu_ 26 47 (bs 36 134217727) ?_ ?_ ?_ ?_ ?_
 rotate_left
 ·intro w'
  go_simp
  with_reducible rfl
 rotate_left
 ·simp only [aS, i64_w, i32_w]
  rfl
 refine pu_ 27 48 (bs 36 268435455) ?_ ?_ ?_ ?_ ?_
 rotate_left
 ·intro w'
  go_simp
  with_reducible rfl
 rotate_left
 ·simp only [aS, i64_w, i32_w]
  rfl
 refine pu_ 28 49 (bs 36 536870911) ?_ ?_ ?_ ?_ ?_
 rotate_left
 ·intro w'
  go_simp
  with_reducible rfl
 rotate_left
 ·simp only [aS, i64_w, i32_w]
  rfl
 refine pu_ 29 50 (bs 36 1073741823) ?_ ?_ ?_ ?_ ?_
 rotate_left
 ·intro w'
  go_simp
  with_reducible rfl
 rotate_left
 ·simp only [aS, i64_w, i32_w]
  rfl
 refine pu_ 30 51 (bs 36 2147483647) ?_ ?_ ?_ ?_ ?_
 rotate_left
 ·intro w'
  go_simp
  with_reducible rfl
 rotate_left
 ·simp only [aS, i64_w, i32_w]
  rfl
 refine pu_ 31 52 (bs 36 4294967295) ?_ ?_ ?_ ?_ ?_
 rotate_left
 ·intro w'
  go_simp
  with_reducible rfl
 rotate_left
 ·simp only [aS, i64_w, i32_w]
  rfl
 refine pu_ 32 53 (bs 36 8589934591) ?_ ?_ ?_ ?_ ?_
 rotate_left
 ·intro w'
  go_simp
  with_reducible rfl
 rotate_left
 ·simp only [aS, i64_w, i32_w]
  rfl
 refine pu_ 33 54 (bs 36 17179869183) ?_ ?_ ?_ ?_ ?_
 rotate_left
 ·intro w'
  go_simp
  with_reducible rfl
 rotate_left
 ·simp only [aS, i64_w, i32_w]
  rfl
 refine pu_ 34 55 (bs 36 34359738367) ?_ ?_ ?_ ?_ ?_
 rotate_left
 ·intro w'
  go_simp
  with_reducible rfl
 rotate_left
 ·simp only [aS, i64_w, i32_w]
  rfl
 refine pu_ 35 56 (bs 36 68719476735) ?_ ?_ ?_ ?_ ?_
 rotate_left
 ·intro w'
  go_simp
  with_reducible rfl
 rotate_left
 ·simp only [aS, i64_w, i32_w]
  rfl
 refine done_ (by kernel_rfl) ?_
 replace HA := Aside0.mk (HA.out.on hHeld)
 replace HB := Aside0.mk (bl_on HB.out hHeld HB.out.size)
 replace HS := Aside0.mk (Nat.le_trans HS.out hHeld.size)
 clear hHeld
 go_upto_region 7 with (first | ((with_reducible refine gate_dst (N := 59) rfl ?_); refine goesL_ (some 59) rfl rfl Try.func27 (by kernel_rfl) rfl #[.slice A l.length c] rfl (by (try simp only [List.map_toArray, List.map_cons, List.map_nil]); first | done | rfl) ?_; (with_reducible refine (K4.out _ HB.out).mono ?_); rintro e u67 ⟨rfl, hb_⟩; refine ⟨_, rfl, ?_⟩; replace HA := Aside0.mk (HA.out.on hb_); replace HB := Aside0.mk (bl_on HB.out hb_ HB.out.size); replace HS := Aside0.mk (Nat.le_trans HS.out hb_.size); clear hb_) | ((with_reducible refine gate_dst (N := 9) rfl ?_); refine al_pt rfl _ rfl rfl ?_; intro g9 u68 eg_ hn_ hb_; have HXg9 : Aside0 (w.heap.size + 1 ≤ g9) := Aside0.mk (by rw [eg_]; exact HS.out); replace HA := Aside0.mk (HA.out.on hb_); replace HB := Aside0.mk (bl_on HB.out hb_ HB.out.size); replace HS := Aside0.mk (Nat.le_trans HS.out hb_.size); have Hg9 := Aside0.mk hn_; clear hn_ hb_ eg_) | ((with_reducible refine gate_st (y := .tmp 60) rfl ?_); (try simp only [aS]); refine st_pt (x := 0) (y := 0) (f := false) Hg9.out rfl _ _ rfl rfl rfl ?_; intro u69 hn_ hb_; replace HA := Aside0.mk (HA.out.but hb_ (by have := HXg9.out; omega)); replace Hg9 := Aside0.mk hn_; replace HB := Aside0.mk (bl_but HB.out hb_ HB.out.size (by have := HXg9.out; omega)); replace HS := Aside0.mk (Nat.le_trans HS.out hb_.size); clear hn_ hb_))
 go_upto_region 8 with (first | ((with_reducible refine gate_dst (N := 64) rfl ?_); refine goesL_ (some 64) rfl rfl Try.func28 (by kernel_rfl) rfl #[.slice A l.length c] rfl (by (try simp only [List.map_toArray, List.map_cons, List.map_nil]); first | done | rfl) ?_; (with_reducible refine (K5.out _ HB.out).mono ?_); rintro e u70 ⟨rfl, hb_⟩; refine ⟨_, rfl, ?_⟩; replace HA := Aside0.mk (HA.out.on hb_); replace Hg9 := Aside0.mk (Hg9.out.on hb_); replace HB := Aside0.mk (bl_on HB.out hb_ HB.out.size); replace HS := Aside0.mk (Nat.le_trans HS.out hb_.size); clear hb_) | ((with_reducible refine gate_dst (N := 11) rfl ?_); refine al_pt rfl _ rfl rfl ?_; intro g11 u71 eg_ hn_ hb_; have HXg11 : Aside0 (w.heap.size + 1 ≤ g11 ∧ g9 < g11) := Aside0.mk (by rw [eg_]; exact ⟨HS.out, Hg9.out.size⟩); replace HA := Aside0.mk (HA.out.on hb_); replace Hg9 := Aside0.mk (Hg9.out.on hb_); replace HB := Aside0.mk (bl_on HB.out hb_ HB.out.size); replace HS := Aside0.mk (Nat.le_trans HS.out hb_.size); have Hg11 := Aside0.mk hn_; clear hn_ hb_ eg_) | ((with_reducible refine gate_st (y := .tmp 65) rfl ?_); (try simp only [aS]); refine st_pt (x := 0) (y := 0) (f := false) Hg11.out rfl _ _ rfl rfl rfl ?_; intro u72 hn_ hb_; replace HA := Aside0.mk (HA.out.but hb_ (by have := HXg9.out; have := HXg11.out; omega)); replace Hg9 := Aside0.mk (Hg9.out.but hb_ (by have := HXg9.out; have := HXg11.out; omega)); replace Hg11 := Aside0.mk hn_; replace HB := Aside0.mk (bl_but HB.out hb_ HB.out.size (by have := HXg9.out; have := HXg11.out; omega)); replace HS := Aside0.mk (Nat.le_trans HS.out hb_.size); clear hn_ hb_))
 go_upto_region 9 with (fail)
 go_wp2_with (first | ((with_reducible refine gate_dst (N := 76) rfl ?_); refine ld_ptG Hg9.out (by rfl) _ rfl rfl ?_))
 go_ret
 exact ⟨rfl, HB.out⟩
theorem bytes_walk5 {x y : Nat} {f : Bool} (hx : x < N256) (hy : y < N256) {A : Option Addr} {n c : Nat} {w : World} (h : ∃ l : List Nat, BAt w A l ∧ l.length = n ∧ n ≤ c) :
  Calls Try.prog 8 #[ptV x y f, .slice A n c] w fun e w' => e = .returned (.bool true) ∧ Below w.heap.size w w' := by
 obtain ⟨l, h0, rfl, hc⟩ := h
 by_cases hp : l.length = 64 ∧ onB (b2x l) (b2y l) false = true
 ·cases f <;> cases hon : onB x y _
  ·exact pb_false_false_is hx hy hon w h0 hc hp
  ·exact pb_true_false_is hx hy hon w h0 hc hp
  ·exact pb_false_true_is hx hy hon w h0 hc hp
  ·exact pb_true_true_is hx hy hon w h0 hc hp
 ·cases f <;> cases hon : onB x y _
  ·exact pb_false_false_no hx hy hon w h0 hc hp
  ·exact pb_true_false_no hx hy hon w h0 hc hp
  ·exact pb_false_true_no hx hy hon w h0 hc hp
  ·exact pb_true_true_no hx hy hon w h0 hc hp
end Go.Proofs.Ytkfjhndofbmhoaa
