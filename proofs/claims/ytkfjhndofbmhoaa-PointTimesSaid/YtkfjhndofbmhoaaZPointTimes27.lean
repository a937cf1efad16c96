/- What the proof of PointTimes is made of, part 27. -/
import Derived.Test.YtkfjhndofbmhoaaZPointTimes2
import Derived.Test.YtkfjhndofbmhoaaZPointTimes26
import Derived.Test.YtkfjhndofbmhoaaZPointTimes31
import Derived.Test.YtkfjhndofbmhoaaZPointTimesh
namespace Go.Proofs.Ytkfjhndofbmhoaa
open Go.RowKit Go.ChangeShapes Go.WideShapes
set_option linter.unusedVariables false
set_option linter.unusedSimpArgs false
section
variable {H : Type} {enc : TypeId × Value → H} {P : Program} {W : World} {base : Nat} {spare : Nat → Bool} {held : Bool}
theorem num_cells {fuel : Nat} {cs : List Value} {x : DataW H × List MemPlace} (hs : cs.length = 4) (hf : DataW.trod enc Try.prog W base spare held fuel 24 cs = some x) :
  ∃ n, cs = nw n ∧ n < N256 := by
 have hu : Try.prog.underlying 24 = some (.array 4 22) := by kernel_rfl
 have hc : Try.prog.cellsOf 22 = 1 := by kernel_rfl
 have he : Try.prog.underlying 22 = some (.int .u64) := by kernel_rfl
 obtain ⟨c0, c1, c2, c3, rfl⟩ : ∃ c0 c1 c2 c3, cs = [c0, c1, c2, c3] := by
  match cs, hs with
  | [c0, c1, c2, c3], _ => exact ⟨c0, c1, c2, c3, rfl⟩
 obtain ⟨xs, m, _, _, _, hl, hx⟩ := DataW.trod_array hu hf
 have g : ∀ (i : Nat) (c : Value), i < 4 → ([c0, c1, c2, c3] : List Value)[i]? = some c → ∃ k : Nat, c = .int .u64 (k : Int) ∧ k < N64 := by
  intro i c hi hc'
  have h1 := hx i hi
  rw [hc, Nat.mul_one] at h1
  have e : (([c0, c1, c2, c3] : List Value).drop i).take 1 = [c] := by
   have : i = 0 ∨ i = 1 ∨ i = 2 ∨ i = 3 := by omega
   rcases this with rfl | rfl | rfl | rfl <;> (simp at hc'; subst hc'; rfl)
  rw [e] at h1
  obtain ⟨y, hy⟩ : ∃ y, xs[i]? = some y := ⟨xs[i]'(Nat.lt_of_lt_of_eq hi hl.symm), List.getElem?_eq_getElem (Nat.lt_of_lt_of_eq hi hl.symm)⟩
  rw [hy] at h1
  obtain ⟨n, hn, _, wn⟩ := DataW.trod_int he h1
  obtain ⟨k, rfl, hk⟩ := nat_of_wf wn
  simp at hn
  exact ⟨k, hn, hk⟩
 obtain ⟨k0, rfl, h0⟩ := g 0 _ (by omega) rfl
 obtain ⟨k1, rfl, h1⟩ := g 1 _ (by omega) rfl
 obtain ⟨k2, rfl, h2⟩ := g 2 _ (by omega) rfl
 obtain ⟨k3, rfl, h3⟩ := g 3 _ (by omega) rfl
 refine ⟨val4 k0 k1 k2 k3, ?_, val4_lt h0 h1 h2 h3⟩
 have := numV_of h0 h1 h2 h3
 rw [numV_nw] at this
 injection this with this
 exact congrArg Array.toList this
theorem cut9 (cs : List Value) (h : cs.length = 9) : cs = (cs.drop 0).take 4 ++ ((cs.drop 4).take 4 ++ (cs.drop 8).take 1) := by
 match cs, h with
 | [a0, a1, a2, a3, a4, a5, a6, a7, a8], _ => rfl
theorem list3 {α : Type} {xs : List α} (h : xs.length = 3) : ∃ y0 y1 y2, xs = [y0, y1, y2] := by
 match xs, h with
 | [y0, y1, y2], _ => exact ⟨y0, y1, y2, rfl⟩
/-- A point by value. -/
theorem open_pt {b : Nat} {v : Value} {d : DataW H} {p : List MemPlace} (hv : Value.okWide Try.prog W .any b 26 v) (h : DataW.Trod enc Try.prog W base spare held 26 v d p) :
  ∃ x y f, v = ptV x y f ∧ (x < N256 ∧ y < N256) := by
 have hu : Try.prog.underlying 26 = some (.struct (Try.prog.fieldsOf 26)) := by kernel_rfl
 have hc9 : Try.prog.cellsOf 26 = 9 := by kernel_rfl
 have hc4 : Try.prog.cellsOf 24 = 4 := by kernel_rfl
 have hc1 : Try.prog.cellsOf 4 = 1 := by kernel_rfl
 have hb : Try.prog.underlying 4 = some .bool := by kernel_rfl
 obtain ⟨cs, rfl, hs⟩ := okWide_struct hu hv
 rw [hc9] at hs
 obtain ⟨fuel, hf⟩ := h
 obtain ⟨xs, m, _, _, _, hl, hx⟩ := DataW.trod_struct hu hf
 have hp := pt_fields
 generalize Try.prog.fieldsOf 26 = fs at hp hx hl
 obtain ⟨fs⟩ := fs
 obtain ⟨f0, r0, rfl, e0, hp⟩ := List.map_eq_cons_iff.1 hp
 obtain ⟨f1, r1, rfl, e1, hp⟩ := List.map_eq_cons_iff.1 hp
 obtain ⟨f2, r2, rfl, e2, hp⟩ := List.map_eq_cons_iff.1 hp
 rw [List.map_eq_nil_iff] at hp
 subst hp
 injection e0 with n0 e0
 injection e0 with t0 o0
 injection e1 with n1 e1
 injection e1 with t1 o1
 injection e2 with n2 e2
 injection e2 with t2 o2
 have hl3 : xs.length = 3 := hl
 obtain ⟨y0, y1, y2, rfl⟩ := list3 hl3
 have h0 := hx 0 f0 rfl
 have h1 := hx 1 f1 rfl
 have h2 := hx 2 f2 rfl
 rw [t0, o0, hc4] at h0
 rw [t1, o1, hc4] at h1
 rw [t2, o2, hc1] at h2
 obtain ⟨cs⟩ := cs
 have hs9 : cs.length = 9 := hs
 change DataW.trod enc Try.prog W base spare held m 24 ((cs.drop 0).take 4) = some y0 at h0
 change DataW.trod enc Try.prog W base spare held m 24 ((cs.drop 4).take 4) = some y1 at h1
 change DataW.trod enc Try.prog W base spare held m 4 ((cs.drop 8).take 1) = some y2 at h2
 obtain ⟨x, ex, hx1⟩ := num_cells (by rw [List.length_take, List.length_drop, hs9]; rfl) h0
 obtain ⟨y, ey, hy1⟩ := num_cells (by rw [List.length_take, List.length_drop, hs9]; rfl) h1
 obtain ⟨f, ef, _⟩ := DataW.trod_bool hb h2
 refine ⟨x, y, f, ?_, hx1, hy1⟩
 unfold ptV pw
 have e := cut9 cs hs9
 rw [ex, ey, ef] at e
 rw [e]
end
end Go.Proofs.Ytkfjhndofbmhoaa
namespace Go.Proofs.Ytkfjhndofbmhoaa
open EC Go.RowKit Go.Proofs.Ytkfjhndofbmhoaa.Arr Go.Proofs.YtkfjhndofbmhoaaW.PrintWords Go.Proofs.YtkfjhndofbmhoaaW.PrintLast Go.Proofs.YtkfjhndofbmhoaaW.PrintMore
attribute [local go_sem high] eqg_num eqg_num0 eqg_pt
set_option linter.unusedVariables false
set_option linter.unusedSimpArgs false
set_option maxRecDepth 100000 in
set_option maxHeartbeats 8000000 in
theorem ptm_bad {i k : Nat} {xa ya : Nat} {fa : Bool} (na : xa < N256) (ma : ya < N256) (ha : onB xa ya fa = false) (w : World) :
  Calls Try.prog 6 #[.int .u64 (i : Int), .int .u64 (k : Int), ptV xa ya fa] w fun e w' => e = .returned (.bool true) ∧ Below w.heap.size w w' := by
 have KU := Aside0.mk (fun (u : World) => up_calls u)
 have Ka := fun (u : World) => pOn_calls na ma fa u
 rw [ha] at Ka
 replace Ka := Aside0.mk Ka
 clear na ma ha
 go_enter Try.func6, Try.ntmps6
 go_upto_region 1 with (fail)
 refine wp_at (w2 := (World.alloc w (.cells (pw xa ya fa).toArray 26))) rfl ?_
 obtain ⟨x_0, e_0, h_0, b_0, s_0⟩ := new_PtAt w xa ya fa
 rw [e_0]
 have HB : Aside0 (Below w.heap.size w x_0) := Aside0.mk b_0
 have HA : Aside0 (PtAt x_0 (w.heap.size) xa ya fa) := Aside0.mk h_0
 have HS : Aside0 (w.heap.size + 1 ≤ x_0.heap.size) := Aside0.mk (Nat.le_of_eq s_0.symm)
 clear e_0 h_0 b_0 s_0
 obtain ⟨w1, hw_⟩ : ∃ x, x = x_0 := ⟨_, rfl⟩
 subst hw_
 go_upto_region 2 with (first | ((with_reducible refine gate_dst (N := 18) rfl ?_); refine goesL_ (some 18) rfl rfl Try.func9 (by kernel_rfl) rfl #[] rfl (by (try simp only [List.map_toArray, List.map_cons, List.map_nil]); first | done | rfl) ?_; (with_reducible refine (KU.out _).mono ?_); rintro e u1 ⟨rfl, hb_⟩; refine ⟨_, rfl, ?_⟩; replace HA := Aside0.mk (HA.out.on hb_); replace HB := Aside0.mk (bl_on HB.out hb_ HB.out.size); replace HS := Aside0.mk (Nat.le_trans HS.out hb_.size); clear hb_))
 go_upto_region 3 with (first | ((with_reducible refine gate_dst (N := 19) rfl ?_); refine ld_pt HA.out rfl _ rfl rfl ?_) | ((with_reducible refine gate_dst (N := 20) rfl ?_); refine goesL_ (some 20) rfl rfl Try.func10 (by kernel_rfl) rfl #[ptV xa ya fa] rfl (by (try simp only [List.map_toArray, List.map_cons, List.map_nil]); first | done | rfl) ?_; (with_reducible refine (Ka.out _).mono ?_); rintro e u2 ⟨rfl, hb_⟩; refine ⟨_, rfl, ?_⟩; replace HA := Aside0.mk (HA.out.on hb_); replace HB := Aside0.mk (bl_on HB.out hb_ HB.out.size); replace HS := Aside0.mk (Nat.le_trans HS.out hb_.size); clear hb_))
 go_wp2
 go_ret
 exact ⟨rfl, HB.out⟩
theorem lt_64 {n : Nat} (h : n < 18446744073709551616) : n < N256 := Nat.lt_trans h (by decide +kernel)
set_option maxRecDepth 100000 in
set_option maxHeartbeats 8000000 in
theorem ptm_ok {i k i2 k2 s2 : Nat} {P : Pt pP} (hP : On cb P) (qi : IntKind.u64.wrap ((i : Int) / 2) = (i2 : Int)) (qk : IntKind.u64.wrap ((k : Int) / 2) = (k2 : Int)) (hi : i2 < 18446744073709551616) (hk : k2 < 18446744073709551616) (es2 : s2 = i2 + k2) (qs : IntKind.u64.wrap ((i2 : Int) + (k2 : Int)) = (s2 : Int)) (hs : s2 < 18446744073709551616) (w : World) :
  Calls Try.prog 6 #[.int .u64 (i : Int), .int .u64 (k : Int), vP P] w fun e w' => e = .returned (.bool true) ∧ Below w.heap.size w w' := by
 obtain ⟨xa, ya, fa, ea, na, ma⟩ := vP_form (P)
 obtain ⟨xb, yb, fb, eb, nb, mb⟩ := vP_form (sm i2 P)
 obtain ⟨xc, yc, fc, ec, nc, mc⟩ := vP_form (sm k2 P)
 obtain ⟨xd, yd, fd, ed, nd, md⟩ := vP_form (sm (i2 + k2) P)
 have KU := Aside0.mk (fun (u : World) => up_calls u)
 have Ka : Aside0 (∀ u, Calls Try.prog 10 #[ptV xa ya fa] u fun e w' => e = .returned (.bool true) ∧ Below u.heap.size u w') := Aside0.mk (fun u => by
  have h := gOn hP u
  rw [ea] at h
  exact h)
 have KM1 : Aside0 (∀ u, Calls Try.prog 22 #[.agg #[.int .u64 (i2 : Int), .int .u64 0, .int .u64 0, .int .u64 0], ptV xa ya fa] u fun e w' => e = .returned (.tuple #[ptV xb yb fb, .nilIface]) ∧ Below u.heap.size u w') := Aside0.mk (fun u => by
  have h := gMul (lt_64 hi) hP u
  rw [num_small i2 hi, ea, eb] at h
  exact h)
 have KM2 : Aside0 (∀ u, Calls Try.prog 22 #[.agg #[.int .u64 (k2 : Int), .int .u64 0, .int .u64 0, .int .u64 0], ptV xa ya fa] u fun e w' => e = .returned (.tuple #[ptV xc yc fc, .nilIface]) ∧ Below u.heap.size u w') := Aside0.mk (fun u => by
  have h := gMul (lt_64 hk) hP u
  rw [num_small k2 hk, ea, ec] at h
  exact h)
 have KM3 : Aside0 (∀ u, Calls Try.prog 22 #[.agg #[.int .u64 (s2 : Int), .int .u64 0, .int .u64 0, .int .u64 0], ptV xa ya fa] u fun e w' => e = .returned (.tuple #[ptV xd yd fd, .nilIface]) ∧ Below u.heap.size u w') := Aside0.mk (fun u => by
  have h := gMul (lt_64 hs) hP u
  rw [num_small s2 hs, es2, ea, ed] at h
  rw [es2]
  exact h)
 have KM4 : Aside0 (∀ u, Calls Try.prog 11 #[ptV xb yb fb, ptV xc yc fc] u fun e w' => e = .returned (.tuple #[ptV xd yd fd, .nilIface]) ∧ Below u.heap.size u w') := Aside0.mk (fun u => by
  have h := gAdd (sm_on hP i2) (sm_on hP k2) u
  rw [← sm_add ok_cb hP, eb, ec, ed] at h
  exact h)
 have KM5 : Aside0 (∀ u, Calls Try.prog 22 #[numV nN, ptV xa ya fa] u fun e w' => e = .returned (.tuple #[ptV 0 0 true, .nilIface]) ∧ Below u.heap.size u w') := Aside0.mk (fun u => by
  have h := gMul nN_lt hP u
  rw [n_far hP, ea] at h
  exact h)
 have hq : ∀ w, (binOp .eql 26 (ptV 0 0 true) (.agg #[.int .u64 0, .int .u64 0, .int .u64 0, .int .u64 0, .int .u64 0, .int .u64 0, .int .u64 0, .int .u64 0, .bool true])).run Try.prog w = .ok (.bool true) w := fun w =>
  eql_pt (x := 0) (y := 0) (x' := 0) (y' := 0) N256_pos N256_pos N256_pos N256_pos true true w
 have hg : ∀ w x_ y_, (eqGuard .eql 26 x_ y_ (ptV 0 0 true) (.agg #[.int .u64 0, .int .u64 0, .int .u64 0, .int .u64 0, .int .u64 0, .int .u64 0, .int .u64 0, .int .u64 0, .bool true])).run Try.prog w = .ok () w := fun w x_ y_ => eqg_pt .eql x_ y_ 0 0 0 0 true true w
 have qd : ∀ w, (binOp .eql 26 (ptV xd yd fd) (ptV xd yd fd)).run Try.prog w = .ok (.bool true) w := fun w => by
  have h := eql_pt nd md nd md fd fd w
  rw [decide_eq_true ⟨rfl, rfl, rfl⟩] at h
  exact h
 rw [ea]
 have K1 := Aside0.mk (fun (u : World) => cn_calls u)
 clear hP hi hk es2 hs ea na ma eb nb mb ec nc mc ed nd md
 go_enter Try.func6, Try.ntmps6
 go_upto_region 1 with (fail)
 refine wp_at (w2 := (World.alloc w (.cells (pw xa ya fa).toArray 26))) rfl ?_
 obtain ⟨x_0, e_0, h_0, b_0, s_0⟩ := new_PtAt w xa ya fa
 rw [e_0]
 have HB : Aside0 (Below w.heap.size w x_0) := Aside0.mk b_0
 have HA : Aside0 (PtAt x_0 (w.heap.size) xa ya fa) := Aside0.mk h_0
 have HS : Aside0 (w.heap.size + 1 ≤ x_0.heap.size) := Aside0.mk (Nat.le_of_eq s_0.symm)
 clear e_0 h_0 b_0 s_0
 obtain ⟨w1, hw_⟩ : ∃ x, x = x_0 := ⟨_, rfl⟩
 subst hw_
 go_upto_region 2 with (first | ((with_reducible refine gate_dst (N := 18) rfl ?_); refine goesL_ (some 18) rfl rfl Try.func9 (by kernel_rfl) rfl #[] rfl (by (try simp only [List.map_toArray, List.map_cons, List.map_nil]); first | done | rfl) ?_; (with_reducible refine (KU.out _).mono ?_); rintro e u3 ⟨rfl, hb_⟩; refine ⟨_, rfl, ?_⟩; replace HA := Aside0.mk (HA.out.on hb_); replace HB := Aside0.mk (bl_on HB.out hb_ HB.out.size); replace HS := Aside0.mk (Nat.le_trans HS.out hb_.size); clear hb_))
 go_upto_region 4 with (first | ((with_reducible refine gate_dst (N := 19) rfl ?_); refine ld_pt HA.out rfl _ rfl rfl ?_) | ((with_reducible refine gate_dst (N := 20) rfl ?_); refine goesL_ (some 20) rfl rfl Try.func10 (by kernel_rfl) rfl #[ptV xa ya fa] rfl (by (try simp only [List.map_toArray, List.map_cons, List.map_nil]); first | done | rfl) ?_; (with_reducible refine (Ka.out _).mono ?_); rintro e u4 ⟨rfl, hb_⟩; refine ⟨_, rfl, ?_⟩; replace HA := Aside0.mk (HA.out.on hb_); replace HB := Aside0.mk (bl_on HB.out hb_ HB.out.size); replace HS := Aside0.mk (Nat.le_trans HS.out hb_.size); clear hb_))
 go_upto_region 5 with (fail)
 go_upto_region 6 with (fail)
 go_upto_region 7 with (first | ((with_reducible refine gate_dst (N := 30) rfl ?_); refine ld_pt HA.out rfl _ rfl rfl ?_) | ((with_reducible refine gate_dst (N := 31) rfl ?_); refine goesL_ (some 31) rfl rfl Try.func22 (by kernel_rfl) rfl #[.agg #[.int .u64 (i2 : Int), .int .u64 0, .int .u64 0, .int .u64 0], ptV xa ya fa] rfl (by (try simp only [List.map_toArray, List.map_cons, List.map_nil]); first | done | rfl) ?_; (with_reducible refine (KM1.out _).mono ?_); rintro e u5 ⟨rfl, hb_⟩; refine ⟨_, rfl, ?_⟩; replace HA := Aside0.mk (HA.out.on hb_); replace HB := Aside0.mk (bl_on HB.out hb_ HB.out.size); replace HS := Aside0.mk (Nat.le_trans HS.out hb_.size); clear hb_) | ((with_reducible refine gate_dst (N := 8) rfl ?_); refine al_pt rfl _ rfl rfl ?_; intro g8 u6 eg_ hn_ hb_; have HXg8 : Aside0 (w.heap.size + 1 ≤ g8) := Aside0.mk (by rw [eg_]; exact HS.out); replace HA := Aside0.mk (HA.out.on hb_); replace HB := Aside0.mk (bl_on HB.out hb_ HB.out.size); replace HS := Aside0.mk (Nat.le_trans HS.out hb_.size); have Hg8 := Aside0.mk hn_; clear hn_ hb_ eg_) | ((with_reducible refine gate_st (y := .tmp 32) rfl ?_); (try simp only [aS]); refine st_pt (x := xb) (y := yb) (f := fb) Hg8.out rfl _ _ rfl rfl rfl ?_; intro u7 hn_ hb_; replace HA := Aside0.mk (HA.out.but hb_ (by have := HXg8.out; omega)); replace Hg8 := Aside0.mk hn_; replace HB := Aside0.mk (bl_but HB.out hb_ HB.out.size (by have := HXg8.out; omega)); replace HS := Aside0.mk (Nat.le_trans HS.out hb_.size); clear hn_ hb_))
 go_upto_region 8 with (first | ((with_reducible refine gate_dst (N := 37) rfl ?_); refine ld_pt HA.out rfl _ rfl rfl ?_) | ((with_reducible refine gate_dst (N := 38) rfl ?_); refine goesL_ (some 38) rfl rfl Try.func22 (by kernel_rfl) rfl #[.agg #[.int .u64 (k2 : Int), .int .u64 0, .int .u64 0, .int .u64 0], ptV xa ya fa] rfl (by (try simp only [List.map_toArray, List.map_cons, List.map_nil]); first | done | rfl) ?_; (with_reducible refine (KM2.out _).mono ?_); rintro e u8 ⟨rfl, hb_⟩; refine ⟨_, rfl, ?_⟩; replace HA := Aside0.mk (HA.out.on hb_); replace Hg8 := Aside0.mk (Hg8.out.on hb_); replace HB := Aside0.mk (bl_on HB.out hb_ HB.out.size); replace HS := Aside0.mk (Nat.le_trans HS.out hb_.size); clear hb_) | ((with_reducible refine gate_dst (N := 10) rfl ?_); refine al_pt rfl _ rfl rfl ?_; intro g10 u9 eg_ hn_ hb_; have HXg10 : Aside0 (w.heap.size + 1 ≤ g10 ∧ g8 < g10) := Aside0.mk (by rw [eg_]; exact ⟨HS.out, Hg8.out.size⟩); replace HA := Aside0.mk (HA.out.on hb_); replace Hg8 := Aside0.mk (Hg8.out.on hb_); replace HB := Aside0.mk (bl_on HB.out hb_ HB.out.size); replace HS := Aside0.mk (Nat.le_trans HS.out hb_.size); have Hg10 := Aside0.mk hn_; clear hn_ hb_ eg_) | ((with_reducible refine gate_st (y := .tmp 39) rfl ?_); (try simp only [aS]); refine st_pt (x := xc) (y := yc) (f := fc) Hg10.out rfl _ _ rfl rfl rfl ?_; intro u10 hn_ hb_; replace HA := Aside0.mk (HA.out.but hb_ (by have := HXg8.out; have := HXg10.out; omega)); replace Hg8 := Aside0.mk (Hg8.out.but hb_ (by have := HXg8.out; have := HXg10.out; omega)); replace Hg10 := Aside0.mk hn_; replace HB := Aside0.mk (bl_but HB.out hb_ HB.out.size (by have := HXg8.out; have := HXg10.out; omega)); replace HS := Aside0.mk (Nat.le_trans HS.out hb_.size); clear hn_ hb_))
 go_upto_region 9 with (first | ((with_reducible refine gate_dst (N := 46) rfl ?_); refine ld_pt HA.out rfl _ rfl rfl ?_) | ((with_reducible refine gate_dst (N := 47) rfl ?_); refine goesL_ (some 47) rfl rfl Try.func22 (by kernel_rfl) rfl #[.agg #[.int .u64 (s2 : Int), .int .u64 0, .int .u64 0, .int .u64 0], ptV xa ya fa] rfl (by (try simp only [List.map_toArray, List.map_cons, List.map_nil]); first | done | rfl) ?_; (with_reducible refine (KM3.out _).mono ?_); rintro e u11 ⟨rfl, hb_⟩; refine ⟨_, rfl, ?_⟩; replace HA := Aside0.mk (HA.out.on hb_); replace Hg8 := Aside0.mk (Hg8.out.on hb_); replace Hg10 := Aside0.mk (Hg10.out.on hb_); replace HB := Aside0.mk (bl_on HB.out hb_ HB.out.size); replace HS := Aside0.mk (Nat.le_trans HS.out hb_.size); clear hb_) | ((with_reducible refine gate_dst (N := 12) rfl ?_); refine al_pt rfl _ rfl rfl ?_; intro g12 u12 eg_ hn_ hb_; have HXg12 : Aside0 (w.heap.size + 1 ≤ g12 ∧ g8 < g12 ∧ g10 < g12) := Aside0.mk (by rw [eg_]; exact ⟨HS.out, Hg8.out.size, Hg10.out.size⟩); replace HA := Aside0.mk (HA.out.on hb_); replace Hg8 := Aside0.mk (Hg8.out.on hb_); replace Hg10 := Aside0.mk (Hg10.out.on hb_); replace HB := Aside0.mk (bl_on HB.out hb_ HB.out.size); replace HS := Aside0.mk (Nat.le_trans HS.out hb_.size); have Hg12 := Aside0.mk hn_; clear hn_ hb_ eg_) | ((with_reducible refine gate_st (y := .tmp 48) rfl ?_); (try simp only [aS]); refine st_pt (x := xd) (y := yd) (f := fd) Hg12.out rfl _ _ rfl rfl rfl ?_; intro u13 hn_ hb_; replace HA := Aside0.mk (HA.out.but hb_ (by have := HXg8.out; have := HXg10.out; have := HXg12.out; omega)); replace Hg8 := Aside0.mk (Hg8.out.but hb_ (by have := HXg8.out; have := HXg10.out; have := HXg12.out; omega)); replace Hg10 := Aside0.mk (Hg10.out.but hb_ (by have := HXg8.out; have := HXg10.out; have := HXg12.out; omega)); replace Hg12 := Aside0.mk hn_; replace HB := Aside0.mk (bl_but HB.out hb_ HB.out.size (by have := HXg8.out; have := HXg10.out; have := HXg12.out; omega)); replace HS := Aside0.mk (Nat.le_trans HS.out hb_.size); clear hn_ hb_))
 go_upto_region 10 with (first | ((with_reducible refine gate_dst (N := 51) rfl ?_); refine ld_pt Hg8.out rfl _ rfl rfl ?_) | ((with_reducible refine gate_dst (N := 52) rfl ?_); refine ld_pt Hg10.out rfl _ rfl rfl ?_) | ((with_reducible refine gate_dst (N := 53) rfl ?_); refine goesL_ (some 53) rfl rfl Try.func11 (by kernel_rfl) rfl #[ptV xb yb fb, ptV xc yc fc] rfl (by (try simp only [List.map_toArray, List.map_cons, List.map_nil]); first | done | rfl) ?_; (with_reducible refine (KM4.out _).mono ?_); rintro e u14 ⟨rfl, hb_⟩; refine ⟨_, rfl, ?_⟩; replace HA := Aside0.mk (HA.out.on hb_); replace Hg8 := Aside0.mk (Hg8.out.on hb_); replace Hg10 := Aside0.mk (Hg10.out.on hb_); replace Hg12 := Aside0.mk (Hg12.out.on hb_); replace HB := Aside0.mk (bl_on HB.out hb_ HB.out.size); replace HS := Aside0.mk (Nat.le_trans HS.out hb_.size); clear hb_) | ((with_reducible refine gate_dst (N := 14) rfl ?_); refine al_pt rfl _ rfl rfl ?_; intro g14 u15 eg_ hn_ hb_; have HXg14 : Aside0 (w.heap.size + 1 ≤ g14 ∧ g8 < g14 ∧ g10 < g14 ∧ g12 < g14) := Aside0.mk (by rw [eg_]; exact ⟨HS.out, Hg8.out.size, Hg10.out.size, Hg12.out.size⟩); replace HA := Aside0.mk (HA.out.on hb_); replace Hg8 := Aside0.mk (Hg8.out.on hb_); replace Hg10 := Aside0.mk (Hg10.out.on hb_); replace Hg12 := Aside0.mk (Hg12.out.on hb_); replace HB := Aside0.mk (bl_on HB.out hb_ HB.out.size); replace HS := Aside0.mk (Nat.le_trans HS.out hb_.size); have Hg14 := Aside0.mk hn_; clear hn_ hb_ eg_) | ((with_reducible refine gate_st (y := .tmp 54) rfl ?_); (try simp only [aS]); refine st_pt (x := xd) (y := yd) (f := fd) Hg14.out rfl _ _ rfl rfl rfl ?_; intro u16 hn_ hb_; replace HA := Aside0.mk (HA.out.but hb_ (by have := HXg8.out; have := HXg10.out; have := HXg12.out; have := HXg14.out; omega)); replace Hg8 := Aside0.mk (Hg8.out.but hb_ (by have := HXg8.out; have := HXg10.out; have := HXg12.out; have := HXg14.out; omega)); replace Hg10 := Aside0.mk (Hg10.out.but hb_ (by have := HXg8.out; have := HXg10.out; have := HXg12.out; have := HXg14.out; omega)); replace Hg12 := Aside0.mk (Hg12.out.but hb_ (by have := HXg8.out; have := HXg10.out; have := HXg12.out; have := HXg14.out; omega)); replace Hg14 := Aside0.mk hn_; replace HB := Aside0.mk (bl_but HB.out hb_ HB.out.size (by have := HXg8.out; have := HXg10.out; have := HXg12.out; have := HXg14.out; omega)); replace HS := Aside0.mk (Nat.le_trans HS.out hb_.size); clear hn_ hb_))
 refine start_ (n := 9) (S := fun w' => Below u16.heap.size u16 w') (ds := [7]) (bs 9 0) (by kernel_rfl) rfl rfl ((Below.refl _ _).drew) (fun hHeld => ?_)
 refine take_ (i := 1) (N := some 58) (a' := ?_) (bs 9 2) rfl rfl (by kernel_rfl) (fun _ _ _ h => h) (yieldsIf_load_mid (by rfl) 26 (.tmp 5) rfl (w.heap.size) 0 rfl ((pw xa ya fa)) _ (fun w' hS => (HA.out.on hS).range) rfl rfl (rfl)) hHeld ?_ ?_
 rotate_left
 ·simp only [aS, i64_w, i32_w]
  rfl
 refine join_ (σ := Nat) 2 (bs 9 127) (fun s => [(16, .pointer (some ⟨s, 0, none⟩)), (57, numV nN), (59, .tuple #[ptV 0 0 true, .nilIface]), (56, .tuple #[ptV 0 0 true, .nilIface]), (60, ptV 0 0 true), (61, .nilIface)]) (fun s w' => Below u16.heap.size u16 w' ∧ PtAt w' s 0 0 false ∧ u16.heap.size ≤ s) ?_ ?_
 rotate_left
 ·intro hCont
  refine tw_ 0 6 (some 57) (some 16) (bs 9 3) (bs 9 66) rfl rfl (fun K hK => ?_) (fun K hK => ?_)
  ·skip
   refine goes_ Try.func16 (by kernel_rfl) rfl #[] (by rfl) rfl rfl (by first | rfl | simp only [List.map_toArray, List.map_cons, List.map_nil]) ?_
   with_reducible refine (K1.out _).mono ?_
   rintro e u17 ⟨rfl, hb_u17⟩
   refine ⟨_, rfl, ?_⟩
   have hq_u17 := bl_on hHeld hb_u17 hHeld.size
   refine hK.out _ _ (hq_u17) (fun hHeld => ?_)
   clear hK K
   refine nm_ (some 57) ?_
   refine tw_ 2 6 (some 59) (some 16) (bs 9 7) (bs 9 67) rfl rfl (fun K hK => ?_) (fun K hK => ?_)
   ·skip
    refine gs_ Try.func22 #[numV nN, ptV xa ya fa] rfl ?_
    with_reducible refine (KM5.out _).mono ?_
    rintro e u18 ⟨rfl, hb_u18⟩
    refine ⟨_, rfl, ?_⟩
    have hq_u18 := bl_on hHeld hb_u18 hHeld.size
    refine hK.out _ _ (hq_u18) (fun hHeld => ?_)
    clear hK K
    refine nm_ (some 59) ?_
    refine pu_ 3 56 (bs 9 15) ?_ ?_ ?_ ?_ ?_
    rotate_left
    ·intro w'
     go_simp
     with_reducible rfl
    rotate_left
    ·simp only [aS, i64_w, i32_w]
     rfl
    refine pu_ 4 60 (bs 9 31) ?_ ?_ ?_ ?_ ?_
    rotate_left
    ·intro w'
     go_simp
     with_reducible rfl
    rotate_left
    ·simp only [aS, i64_w, i32_w]
     rfl
    refine pu_ 5 61 (bs 9 63) ?_ ?_ ?_ ?_ ?_
    rotate_left
    ·intro w'
     go_simp
     with_reducible rfl
    rotate_left
    ·simp only [aS, i64_w, i32_w]
     rfl
    refine on1_ 6 (some 16) (bs 9 127) rfl fun K hK => ?_
    refine value_ (w1 := ?_) (v := ?_) (by rfl) rfl ?_ ?_
    rotate_left 2
    ·go_simp
     constructor
     ·rfl
     ·rfl
    have hzg16 : PtAt (World.alloc u18 (.cells (pw 0 0 false).toArray 26)) (u18.heap.size) 0 0 false := by have h_ := Row.new u18 26 (pw 0 0 false); first | exact h_ | (simp only [alloc_sz] at h_; exact h_) | omega
    have hsg16 : u16.heap.size ≤ u18.heap.size := by have h_ := hHeld.size; first | exact h_ | (simp only [alloc_sz] at h_; exact h_) | omega
    refine hK.out _ _ (below_alloc hHeld _) (fun hHeld => ?_)
    clear hK K
    refine nm_ (some 16) ?_
    exact norm_ (by simp only [putAll, aS]) (hCont (u18.heap.size) _ ⟨hHeld, hzg16, hsg16⟩)
   ·skip
    refine value_ (w1 := ?_) (v := ?_) (by rfl) rfl ?_ ?_
    rotate_left 2
    ·go_simp
     constructor
     ·rfl
     ·rfl
    have hzg16 : PtAt (World.alloc u17 (.cells (pw 0 0 false).toArray 26)) (u17.heap.size) 0 0 false := by have h_ := Row.new u17 26 (pw 0 0 false); first | exact h_ | (simp only [alloc_sz] at h_; exact h_) | omega
    have hsg16 : u16.heap.size ≤ u17.heap.size := by have h_ := hHeld.size; first | exact h_ | (simp only [alloc_sz] at h_; exact h_) | omega
    refine hK.out _ _ (below_alloc hHeld _) (fun hHeld => ?_)
    clear hK K
    refine nm_ (some 16) ?_
    refine on1_ 2 (some 59) (bs 9 71) rfl fun K hK => ?_
    refine gs_ Try.func22 #[numV nN, ptV xa ya fa] rfl ?_
    with_reducible refine (KM5.out _).mono ?_
    rintro e u18 ⟨rfl, hb_u18⟩
    refine ⟨_, rfl, ?_⟩
    have hq_u18 := bl_on hHeld hb_u18 hHeld.size
    replace hzg16 := hzg16.on hb_u18
    refine hK.out _ _ (hq_u18) (fun hHeld => ?_)
    clear hK K
    refine nm_ (some 59) ?_
    refine pu_ 3 56 (bs 9 79) ?_ ?_ ?_ ?_ ?_
    rotate_left
    ·intro w'
     go_simp
     with_reducible rfl
    rotate_left
    ·simp only [aS, i64_w, i32_w]
     rfl
    refine pu_ 4 60 (bs 9 95) ?_ ?_ ?_ ?_ ?_
    rotate_left
    ·intro w'
     go_simp
     with_reducible rfl
    rotate_left
    ·simp only [aS, i64_w, i32_w]
     rfl
    refine pu_ 5 61 (bs 9 127) ?_ ?_ ?_ ?_ ?_
    rotate_left
    ·intro w'
     go_simp
     with_reducible rfl
    rotate_left
    ·simp only [aS, i64_w, i32_w]
     rfl
    exact norm_ (by simp only [putAll, aS]) (hCont (u17.heap.size) _ ⟨hHeld, hzg16, hsg16⟩)
  ·skip
   refine value_ (w1 := ?_) (v := ?_) (by rfl) rfl ?_ ?_
   rotate_left 2
   ·go_simp
    constructor
    ·rfl
    ·rfl
   have hzg16 : PtAt (World.alloc (World.drew u16) (.cells (pw 0 0 false).toArray 26)) (u16.heap.size) 0 0 false := by have h_ := Row.new (World.drew u16) 26 (pw 0 0 false); first | exact h_ | (simp only [alloc_sz] at h_; exact h_) | omega
   have hsg16 : u16.heap.size ≤ u16.heap.size := by have h_ := hHeld.size; first | exact h_ | (simp only [alloc_sz] at h_; exact h_) | omega
   refine hK.out _ _ (below_alloc hHeld _) (fun hHeld => ?_)
   clear hK K
   refine nm_ (some 16) ?_
   refine on1_ 0 (some 57) (bs 9 67) rfl fun K hK => ?_
   refine goes_ Try.func16 (by kernel_rfl) rfl #[] (by rfl) rfl rfl (by first | rfl | simp only [List.map_toArray, List.map_cons, List.map_nil]) ?_
   with_reducible refine (K1.out _).mono ?_
   rintro e u17 ⟨rfl, hb_u17⟩
   refine ⟨_, rfl, ?_⟩
   have hq_u17 := bl_on hHeld hb_u17 hHeld.size
   replace hzg16 := hzg16.on hb_u17
   refine hK.out _ _ (hq_u17) (fun hHeld => ?_)
   clear hK K
   refine nm_ (some 57) ?_
   refine on1_ 2 (some 59) (bs 9 71) rfl fun K hK => ?_
   refine gs_ Try.func22 #[numV nN, ptV xa ya fa] rfl ?_
   with_reducible refine (KM5.out _).mono ?_
   rintro e u18 ⟨rfl, hb_u18⟩
   refine ⟨_, rfl, ?_⟩
   have hq_u18 := bl_on hHeld hb_u18 hHeld.size
   replace hzg16 := hzg16.on hb_u18
   refine hK.out _ _ (hq_u18) (fun hHeld => ?_)
   clear hK K
   refine nm_ (some 59) ?_
   refine pu_ 3 56 (bs 9 79) ?_ ?_ ?_ ?_ ?_
   rotate_left
   ·intro w'
    go_simp
    with_reducible rfl
   rotate_left
   ·simp only [aS, i64_w, i32_w]
    rfl
   refine pu_ 4 60 (bs 9 95) ?_ ?_ ?_ ?_ ?_
   rotate_left
   ·intro w'
    go_simp
    with_reducible rfl
   rotate_left
   ·simp only [aS, i64_w, i32_w]
    rfl
   refine pu_ 5 61 (bs 9 127) ?_ ?_ ?_ ?_ ?_
   rotate_left
   ·intro w'
    go_simp
    with_reducible rfl
   rotate_left
   ·simp only [aS, i64_w, i32_w]
    rfl
   exact norm_ (by simp only [putAll, aS]) (hCont (u16.heap.size) _ ⟨hHeld, hzg16, hsg16⟩)
 rintro g16 v19 ⟨hHeld0, hzg16, hsg16⟩
 have hHeld : Below u16.heap.size u16 v19 := hHeld0
 clear hHeld0
 refine norm_ (a' := ?_) ?_ ?_
 rotate_left
 ·simp only [putAll, aS]
  rfl
 refine last_ (i := 7) (N := none) (bs 9 255) rfl rfl (by kernel_rfl) (by decide) (fun K hK => ?_)
 refine skip_pt (x := 0) (y := 0) (f := true) (hzg16) (by rfl) rfl (.tmp 16) (.tmp 60) rfl rfl rfl ?_
 intro q20 hA_q20 hT_q20
 refine hK.out _ _ ?_
 clear hK K
 refine pu_ 8 17 (bs 9 511) ?_ ?_ ?_ ?_ ?_
 rotate_left
 ·intro w'
  go_simp
  with_reducible rfl
 rotate_left
 ·simp only [aS, i64_w, i32_w]
  rfl
 refine done_ (by kernel_rfl) ?_
 have HXg16 : Aside0 (w.heap.size + 1 ≤ g16 ∧ g8 < g16 ∧ g10 < g16 ∧ g12 < g16 ∧ g14 < g16) := Aside0.mk (⟨Nat.le_trans HS.out hsg16, Nat.lt_of_lt_of_le Hg8.out.size hsg16, Nat.lt_of_lt_of_le Hg10.out.size hsg16, Nat.lt_of_lt_of_le Hg12.out.size hsg16, Nat.lt_of_lt_of_le Hg14.out.size hsg16⟩)
 replace HA := Aside0.mk (HA.out.on hHeld)
 replace Hg8 := Aside0.mk (Hg8.out.on hHeld)
 replace Hg10 := Aside0.mk (Hg10.out.on hHeld)
 replace Hg12 := Aside0.mk (Hg12.out.on hHeld)
 replace Hg14 := Aside0.mk (Hg14.out.on hHeld)
 replace HB := Aside0.mk (bl_on HB.out hHeld HB.out.size)
 replace HS := Aside0.mk (Nat.le_trans HS.out hHeld.size)
 replace HA := Aside0.mk (HA.out.but hT_q20 (by have := HXg8.out; have := HXg10.out; have := HXg12.out; have := HXg14.out; have := HXg16.out; omega))
 replace Hg8 := Aside0.mk (Hg8.out.but hT_q20 (by have := HXg8.out; have := HXg10.out; have := HXg12.out; have := HXg14.out; have := HXg16.out; omega))
 replace Hg10 := Aside0.mk (Hg10.out.but hT_q20 (by have := HXg8.out; have := HXg10.out; have := HXg12.out; have := HXg14.out; have := HXg16.out; omega))
 replace Hg12 := Aside0.mk (Hg12.out.but hT_q20 (by have := HXg8.out; have := HXg10.out; have := HXg12.out; have := HXg14.out; have := HXg16.out; omega))
 replace Hg14 := Aside0.mk (Hg14.out.but hT_q20 (by have := HXg8.out; have := HXg10.out; have := HXg12.out; have := HXg14.out; have := HXg16.out; omega))
 have Hg16 := Aside0.mk hA_q20
 replace HB := Aside0.mk (bl_but HB.out hT_q20 HB.out.size (by have := HXg8.out; have := HXg10.out; have := HXg12.out; have := HXg14.out; have := HXg16.out; omega))
 replace HS := Aside0.mk (Nat.le_trans HS.out hT_q20.size)
 clear hA_q20 hT_q20 hzg16 hsg16 hHeld
 go_wp2_with (first | ((with_reducible refine gate_dst (N := 84) rfl ?_); refine ld_ptG Hg14.out (by rfl) _ rfl rfl ?_) | ((with_reducible refine gate_dst (N := 85) rfl ?_); refine ld_ptG Hg12.out (by rfl) _ rfl rfl ?_) | ((with_reducible refine gate_dst (N := 89) rfl ?_); refine ld_ptG Hg16.out (by rfl) _ rfl rfl ?_))
 go_ret
 exact ⟨rfl, HB.out⟩
theorem times_walk {a0 a1 : Int} {xa ya : Nat} {fa : Bool} (w0 : (Lit.int .u64 a0).wf = true) (w1 : (Lit.int .u64 a1).wf = true) (w2 : xa < N256 ∧ ya < N256) {w : World} :
  Calls Try.prog 6 #[.int .u64 a0, .int .u64 a1, ptV xa ya fa] w fun e w' => e = .returned (.bool true) ∧ Below w.heap.size w w' := by
 obtain ⟨i, rfl, hi⟩ := nat_of_wf w0
 obtain ⟨k, rfl, hk⟩ := nat_of_wf w1
 unfold N64 at hi hk
 cases ha : onB xa ya fa
 ·exact ptm_bad w2.1 w2.2 ha w
 ·rw [on_vP ha]
  exact ptm_ok (i2 := i / 2) (k2 := k / 2) (s2 := i / 2 + k / 2) (on_spec ha) (by rw [IntKind.wrap_u64]; omega) (by rw [IntKind.wrap_u64]; omega) (by omega) (by omega) rfl (by rw [IntKind.wrap_u64]; omega) (by omega) w
end Go.Proofs.Ytkfjhndofbmhoaa
