/- What the proof of PointMultiples is made of, part 35. -/
import Derived.Test.YtkfjhndofbmhoaaZPointMultiples31
import Derived.Test.YtkfjhndofbmhoaaZPointMultiples34
import Derived.Test.YtkfjhndofbmhoaaZPointMultiples16
import Derived.Test.YtkfjhndofbmhoaaZPointMultiples2
import Derived.Test.YtkfjhndofbmhoaaZPointMultiplesh
namespace Go.Proofs.Ytkfjhndofbmhoaa
open EC Go.RowKit Go.Proofs.Ytkfjhndofbmhoaa.Arr Go.Proofs.YtkfjhndofbmhoaaW.PrintWords Go.Proofs.YtkfjhndofbmhoaaW.PrintLast Go.Proofs.YtkfjhndofbmhoaaW.PrintMore
attribute [local go_sem high] eqg_num eqg_num0 eqg_pt
set_option linter.unusedVariables false
set_option linter.unusedSimpArgs false
theorem inv_same {p : Nat} [NeZero p] {y u z : Fin p} (h3 : y * u = 1) (h2 : y * z = 1) : z = u := by grobner
theorem zero_sub_ring {p : Nat} [NeZero p] (y : Fin p) : 0 - y = -y := by grobner
theorem opp_ring {p : Nat} [NeZero p] {b : Fin p} (h : b + b = 0) : b = -b := by grobner
theorem sq_ring {p : Nat} [NeZero p] {b d t : Fin p} (h1 : b * b = t) (h2 : d * d = t) : (b - d) * (b + d) = 0 := by grobner
theorem sub_eq_ring {p : Nat} [NeZero p] {b d : Fin p} (h : b - d = 0) : b = d := by grobner
theorem add_eq_ring {p : Nat} [NeZero p] {b d : Fin p} (h : b + d = 0) : b = -d := by grobner
theorem vP_pt {X Y : Nat} (hX : X < pP) (hY : Y < pP) {x y : Fin pP} (e1 : fi X = x) (e2 : fi Y = y) : ptV X Y false = vP (Pt.affp x y) := by
 subst e1
 subst e2
 show _ = ptV (fi X).val (fi Y).val false
 rw [fi_val hX, fi_val hY]
theorem fi_rlX {l x1 x2 : Nat} (h1 : x1 < pP) (h2 : x2 < pP) : fi (rlX l x1 x2) = fi l * fi l - fi x1 - fi x2 := by
 unfold rlX
 rw [fi_sub h2, fi_sub h1, fi_mul]
theorem fi_rlY {l x1 y1 x : Nat} (h1 : y1 < pP) (h2 : x < pP) : fi (rlY l x1 y1 x) = fi l * (fi x1 - fi x) - fi y1 := by
 unfold rlY
 rw [fi_sub h1, fi_mul, fi_sub h2]
theorem rl_pt {l x1 y1 x2 : Nat} (b1 : x1 < pP) (b2 : y1 < pP) (b3 : x2 < pP) : ptV (rlX l x1 x2) (rlY l x1 y1 (rlX l x1 x2)) false = vP (Pt.affp (fi l * fi l - fi x1 - fi x2) (fi l * (fi x1 - (fi l * fi l - fi x1 - fi x2)) - fi y1)) := by
 have lx : rlX l x1 x2 < pP := msp_lt _ _
 have ly : rlY l x1 y1 (rlX l x1 x2) < pP := msp_lt _ _
 refine vP_pt lx ly (fi_rlX b1 b3) ?_
 rw [fi_rlY b2 lx, fi_rlX b1 b3]
theorem inv_fi {a : Nat} (ha : a < pP) (h0 : fi a ≠ 0) : ∃ v, invO pP a = some v ∧ fi v = iv (fi a) := by
 have hz : a ≠ 0 := fun e => h0 (by rw [e]; exact fi_zero)
 obtain ⟨v, hv, h1⟩ := Pr.inv_ex pr_p (Nat.pos_of_ne_zero hz) ha
 refine ⟨v, invO_some ⟨hv, h1⟩, ?_⟩
 have h2 : fi a * fi v = 1 := by
  rw [← fi_mul, show mmp a v = 1 from h1]
  rfl
 have h3 := ivm h0
 generalize iv (fi a) = u at *
 generalize fi v = z at *
 generalize fi a = y at *
 exact inv_same h3 h2
theorem rgAdd {P Q : Pt pP} (hP : On cb P) (hQ : On cb Q) (w : World) : Calls Try.prog 21 #[vP P, vP Q] w fun e w' => e = .returned (vP (add P Q)) ∧ Below w.heap.size w w' := by
 cases P with
 | far =>
  rw [far_add]
  exact radd_far1 0 0 (EC.nx Q) (EC.ny Q) (EC.nf Q) w
 | affp a b =>
  cases Q with
  | far =>
   rw [add_far]
   exact radd_far2 a.val b.val 0 0 w
  | affp c d =>
   have hneg : (-d).val = (0 + pP - d.val) % pP := by
    have e0 : fi (msp 0 d.val) = -d := by
     rw [fi_sub d.isLt, fi_zero, fi_of]
     exact zero_sub_ring d
    rw [← e0]
    exact fi_val (msp_lt 0 d.val)
   by_cases hopp : a = c ∧ b = -d
   ·rw [add_opp hopp]
    exact radd_opp a.isLt b.isLt c.isLt d.isLt ⟨congrArg Fin.val hopp.1, (congrArg Fin.val hopp.2).trans hneg⟩ w
   ·have hopp2 : ¬(a.val = c.val ∧ b.val = (0 + pP - d.val) % pP) := fun h => hopp ⟨Fin.ext h.1, Fin.ext (h.2.trans hneg.symm)⟩
    rw [add_pt, if_neg hopp]
    by_cases hs : a = c ∧ b = d
    ·obtain ⟨rfl, rfl⟩ := hs
     have hyy : b + b ≠ 0 := fun e => hopp ⟨rfl, opp_ring e⟩
     have ed : fi ((b.val + b.val) % pP) = b + b := by
      show fi (adp b.val b.val) = b + b
      rw [fi_add, fi_of]
     obtain ⟨v, hv, ev⟩ := inv_fi (mod_p (b.val + b.val)) (by rw [ed]; exact hyy)
     have h := radd_tan a.isLt b.isLt hopp2 hv w
     rw [rl_pt a.isLt b.isLt a.isLt, fi_of, fi_of, fi_mul, fi_mul, fi_sub pP_one, fi_mul, fi_of, fi_lit3, fi_one, ev, ed] at h
     have es : slope a b a b = 3 * (a * a - 1) * iv (b + b) := if_pos ⟨rfl, rfl⟩
     rw [es]
     exact h
    ·have hac : a ≠ c := by
      intro e
      subst e
      have h1 : b * b = a * a * a - 3 * a + cb := hP
      have h2 : d * d = a * a * a - 3 * a + cb := hQ
      rcases zd (sq_ring h1 h2) with h3 | h3
      ·exact hs ⟨rfl, sub_eq_ring h3⟩
      ·exact hopp ⟨rfl, add_eq_ring h3⟩
     have hd : c - a ≠ 0 := fun e => hac (sub_eq_ring e).symm
     have ed : fi ((c.val + pP - a.val) % pP) = c - a := by
      show fi (msp c.val a.val) = c - a
      rw [fi_sub a.isLt, fi_of, fi_of]
     obtain ⟨v, hv, ev⟩ := inv_fi (mod_p (c.val + pP - a.val)) (by rw [ed]; exact hd)
     have h := radd_gen a.isLt b.isLt c.isLt d.isLt hopp2 (fun h => hs ⟨Fin.ext h.1, Fin.ext h.2⟩) hv w
     rw [rl_pt a.isLt b.isLt c.isLt, fi_of, fi_of, fi_of, fi_mul, fi_sub b.isLt, fi_of, fi_of, ev, ed] at h
     have es : slope a b c d = (d - b) * iv (c - a) := if_neg hs
     rw [es]
     exact h
theorem rgOn {P : Pt pP} (h : On cb P) (w : World) : Calls Try.prog 13 #[vP P] w fun e w' => e = .returned (.bool true) ∧ Below w.heap.size w w' := by
 have := rOn_calls (vN P).1 (vN P).2 (EC.nf P) w
 rw [on_back h] at this
 exact this
theorem sm_next {P : Pt pP} (h : On cb P) (k j : Nat) : sm (k / 2 ^ j) P = if k.testBit j then add (add (sm (k / 2 ^ (j + 1)) P) (sm (k / 2 ^ (j + 1)) P)) P else add (sm (k / 2 ^ (j + 1)) P) (sm (k / 2 ^ (j + 1)) P) := by
 rw [shr_step k j]
 by_cases hb : k.testBit j = true
 ·rw [if_pos hb, if_pos hb]
  show add (sm (2 * (k / 2 ^ (j + 1))) P) P = _
  rw [sm_two ok_cb h]
 ·rw [if_neg hb, if_neg hb, Nat.add_zero, sm_two ok_cb h]
set_option maxRecDepth 100000 in
set_option maxHeartbeats 8000000 in
theorem rgMul {k : Nat} (hk : k < N256) {P : Pt pP} (hP : On cb P) (w : World) :
  Calls Try.prog 23 #[numV k, vP P] w fun e w' => e = .returned (vP (sm k P)) ∧ Below w.heap.size w w' := by
 obtain ⟨xa, ya, fa, eP, na, ma⟩ := vP_form P
 have HPA : Aside0 (vP P = ptV xa ya fa) := Aside0.mk eP
 have HP : Aside0 (On cb P) := Aside0.mk hP
 have KL := Aside0.mk (fun (u : World) => rlen_calls (IsNum.mk hk) u)
 have hL := lenN_256b k hk
 have htop : k < 2 ^ lenN k := lenN_lt k
 obtain ⟨L, eL⟩ : ∃ L, L = lenN k := ⟨_, rfl⟩
 rw [← eL] at KL hL htop
 have HTOP : Aside0 (sm (k / 2 ^ L) P = Pt.far) := Aside0.mk (by rw [Nat.div_eq_of_lt htop]; rfl)
 have HEND : Aside0 (k / 2 ^ 0 = k) := Aside0.mk (by rw [Nat.pow_zero, Nat.div_one])
 have q1 : wrap64 ((L : Int) - 1) = (L : Int) - 1 := by unfold wrap64; omega
 have HLL := Aside0.mk hL
 have KB := Aside0.mk (fun (i : Int) (u : World) => rbit_calls (IsNum.mk hk) i u)
 obtain ⟨X, Y, F, eX_⟩ : ∃ X Y F, vP (sm k P) = ptV X Y F ∧ EC.nx (sm k P) = X ∧ EC.ny (sm k P) = Y ∧ EC.nf (sm k P) = F := ⟨_, _, _, rfl, rfl, rfl, rfl⟩
 have HX := Aside0.mk eX_.2
 rw [eP, eX_.1]
 clear hk hP eP na ma hL htop eL eX_
 go_enter Try.func23, Try.ntmps23
 go_upto_region 1 with (fail)
 refine wp_at (w2 := (World.alloc (World.alloc (World.alloc w (.cells (nw k).toArray 24)) (.cells (pw xa ya fa).toArray 26)) (.cells (pw 0 0 false).toArray 26))) rfl ?_
 obtain ⟨x_0, e_0, h_0, b_0, s_0⟩ := new_num w k
 obtain ⟨x_1, e_1, h_1, b_1, s_1⟩ := new_PtAt x_0 xa ya fa
 obtain ⟨x_2, e_2, h_2, b_2, s_2⟩ := new_PtAt x_1 0 0 false
 rw [e_0, e_1, e_2]
 rw [s_0] at h_1 s_1
 rw [s_1] at h_2 s_2
 have HB : Aside0 (Below w.heap.size w x_2) := Aside0.mk (bl_both (bl_both b_0 b_1) b_2)
 have HK1 : Aside0 (NAt x_2 (w.heap.size) k) := Aside0.mk ((h_0.on b_1).on b_2)
 have HA : Aside0 (PtAt x_2 (w.heap.size + 1) xa ya fa) := Aside0.mk (h_1.on b_2)
 have HR : Aside0 (PtAt x_2 (w.heap.size + 1 + 1) 0 0 false) := Aside0.mk h_2
 have HS : Aside0 (w.heap.size + 1 + 1 + 1 ≤ x_2.heap.size) := Aside0.mk (Nat.le_of_eq s_2.symm)
 clear e_0 h_0 b_0 s_0 e_1 h_1 b_1 s_1 e_2 h_2 b_2 s_2
 obtain ⟨w1, hw_⟩ : ∃ x, x = x_2 := ⟨_, rfl⟩
 subst hw_
 clear x_0 x_1
 go_upto_region 2 with (first | ((with_reducible refine gate_dst (N := 5) rfl ?_); refine al_pt rfl _ rfl rfl ?_; intro g5 u1 eg_ hn_ hb_; have HXg5 : Aside0 (w.heap.size + 1 + 1 + 1 ≤ g5) := Aside0.mk (by rw [eg_]; exact HS.out); replace HK1 := Aside0.mk (HK1.out.on hb_); replace HA := Aside0.mk (HA.out.on hb_); replace HR := Aside0.mk (HR.out.on hb_); replace HB := Aside0.mk (bl_on HB.out hb_ HB.out.size); replace HS := Aside0.mk (Nat.le_trans HS.out hb_.size); have Hg5 := Aside0.mk hn_; clear hn_ hb_ eg_) | ((with_reducible refine gate_st (y := .tmp 8) rfl ?_); (try simp only [aS]); refine st_pt (x := 0) (y := 0) (f := true) Hg5.out rfl _ _ rfl rfl rfl ?_; intro u2 hn_ hb_; replace HK1 := Aside0.mk (HK1.out.but hb_ (by have := HXg5.out; omega)); replace HA := Aside0.mk (HA.out.but hb_ (by have := HXg5.out; omega)); replace HR := Aside0.mk (HR.out.but hb_ (by have := HXg5.out; omega)); replace Hg5 := Aside0.mk hn_; replace HB := Aside0.mk (bl_but HB.out hb_ HB.out.size (by have := HXg5.out; omega)); replace HS := Aside0.mk (Nat.le_trans HS.out hb_.size); clear hn_ hb_))
 go_wp2_with (first | ((with_reducible refine gate_dst (N := 9) rfl ?_); refine ld_num (HK1.out.range) rfl _ rfl rfl ?_) | ((with_reducible refine gate_dst (N := 10) rfl ?_); refine goesL_ (some 10) rfl rfl Try.func43 (by kernel_rfl) rfl #[numV k] rfl (by (try simp only [List.map_toArray, List.map_cons, List.map_nil]); first | done | rfl) ?_; (with_reducible refine (KL.out _).mono ?_); rintro e u3 ⟨rfl, hb_⟩; refine ⟨_, rfl, ?_⟩; replace HK1 := Aside0.mk (HK1.out.on hb_); replace HA := Aside0.mk (HA.out.on hb_); replace HR := Aside0.mk (HR.out.on hb_); replace Hg5 := Aside0.mk (Hg5.out.on hb_); replace HB := Aside0.mk (bl_on HB.out hb_ HB.out.size); replace HS := Aside0.mk (Nat.le_trans HS.out hb_.size); clear hb_))
 rw [q1]
 go_loopw [6] (fun v wr => ∃ m : Nat, m ≤ L ∧ v = .int .i64 ((m : Int) - 1) ∧ Aside0 (PtAt wr g5 (EC.nx (sm (k / 2 ^ m) P)) (EC.ny (sm (k / 2 ^ m) P)) (EC.nf (sm (k / 2 ^ m) P))) ∧ Aside0 (NAt wr (w.heap.size) k) ∧ Aside0 (PtAt wr (w.heap.size + 1) xa ya fa) ∧ Aside0 (PtAt wr (w.heap.size + 1 + 1) 0 0 false) ∧ Aside0 (Below w.heap.size w wr) ∧ Aside0 (w.heap.size + 1 + 1 + 1 ≤ wr.heap.size))
  (fun v _ => (intOf v + 1).toNat)
 case atStart => exact ⟨L, Nat.le_refl _, by first | rfl | rw [q1], Aside0.mk (by rw [HTOP.out]; exact Hg5.out), HK1, HA, HR, HB, HS⟩
 case round =>
  clear Hg5 HK1 HA HR HB HS
  obtain ⟨m, hm, rfl, Hg5, HK1, HA, HR, HB, HS⟩ := hrel
  cases m with
  | zero =>
   have t1 : ¬ (0 : Int) ≤ ((0 : Nat) : Int) - 1 := by decide
   rw [HEND.out] at Hg5
   clear hm
   rw [HX.out.1, HX.out.2.1, HX.out.2.2] at Hg5
   go_upto_region 9 with (fail)
   go_wp2_with (first | ((with_reducible refine gate_dst (N := 26) rfl ?_); refine ld_pt Hg5.out rfl _ rfl rfl ?_) | ((with_reducible refine gate_st (y := .tmp 26) rfl ?_); (try simp only [aS]); refine st_pt (x := X) (y := Y) (f := F) HR.out rfl _ _ rfl rfl rfl ?_; intro u4 hn_ hb_; replace HK1 := Aside0.mk (HK1.out.but hb_ (by have := HXg5.out; omega)); replace HA := Aside0.mk (HA.out.but hb_ (by have := HXg5.out; omega)); replace Hg5 := Aside0.mk (Hg5.out.but hb_ (by have := HXg5.out; omega)); replace HR := Aside0.mk hn_; replace HB := Aside0.mk (bl_but HB.out hb_ HB.out.size (by have := HXg5.out; omega)); replace HS := Aside0.mk (Nat.le_trans HS.out hb_.size); clear hn_ hb_))
   refine bodyPost_ret (v := ptV X Y F) (results_pt rfl rfl HR.out) rfl ⟨rfl, HB.out⟩
  | succ j =>
   have t2 : ((j + 1 : Nat) : Int) - 1 = (j : Int) := by omega
   rw [t2]
   have t1 : (0 : Int) ≤ (j : Int) := by omega
   have q2 : wrap64 ((j : Int) - 1) = (j : Int) - 1 := by have := HLL.out; unfold wrap64; omega
   have HJ := Aside0.mk hm
   have oS := sm_on HP.out (k / 2 ^ (j + 1))
   have nx_ := sm_next HP.out k j
   generalize sm (k / 2 ^ (j + 1)) P = S1 at *
   have KT := fun (u : World) => rgAdd oS oS u
   have oD := add_on oS oS
   generalize add S1 S1 = D1 at *
   have KS := fun (u : World) => rgAdd oD HP.out u
   rw [HPA.out] at KS
   generalize add D1 P = E1 at *
   obtain ⟨s1, s2, s3, es1, es2, es3, esv⟩ : ∃ a b c, EC.nx S1 = a ∧ EC.ny S1 = b ∧ EC.nf S1 = c ∧ vP S1 = ptV a b c := ⟨_, _, _, rfl, rfl, rfl, rfl⟩
   obtain ⟨d1, d2, d3, ed1, ed2, ed3, edv⟩ : ∃ a b c, EC.nx D1 = a ∧ EC.ny D1 = b ∧ EC.nf D1 = c ∧ vP D1 = ptV a b c := ⟨_, _, _, rfl, rfl, rfl, rfl⟩
   obtain ⟨e1, e2, e3, ee1, ee2, ee3, eev⟩ : ∃ a b c, EC.nx E1 = a ∧ EC.ny E1 = b ∧ EC.nf E1 = c ∧ vP E1 = ptV a b c := ⟨_, _, _, rfl, rfl, rfl, rfl⟩
   rw [es1, es2, es3] at Hg5
   rw [esv, edv] at KT
   rw [edv, eev] at KS
   have KT := Aside0.mk KT
   have KS := Aside0.mk KS
   have HN1 : Aside0 (k.testBit j = false → EC.nx (sm (k / 2 ^ j) P) = d1 ∧ EC.ny (sm (k / 2 ^ j) P) = d2 ∧ EC.nf (sm (k / 2 ^ j) P) = d3) := Aside0.mk (fun hb => by rw [nx_, hb]; exact ⟨ed1, ed2, ed3⟩)
   have HN2 : Aside0 (k.testBit j = true → EC.nx (sm (k / 2 ^ j) P) = e1 ∧ EC.ny (sm (k / 2 ^ j) P) = e2 ∧ EC.nf (sm (k / 2 ^ j) P) = e3) := Aside0.mk (fun hb => by rw [nx_, hb]; exact ⟨ee1, ee2, ee3⟩)
   have KBj := fun u => KB.out (j : Int) u
   rw [bitI_natp] at KBj
   have KBj := Aside0.mk KBj
   clear nx_ es1 es2 es3 esv ed1 ed2 ed3 edv ee1 ee2 ee3 eev oS oD t2 hm
   cases hb : k.testBit j
   ·skip
    have HNX := Aside0.mk (HN1.out hb)
    rw [hb] at KBj
    clear hb HN1 HN2
    go_upto_region 6 with (first | ((with_reducible refine gate_dst (N := 16) rfl ?_); refine ld_pt Hg5.out rfl _ rfl rfl ?_) | ((with_reducible refine gate_dst (N := 17) rfl ?_); refine ld_pt Hg5.out rfl _ rfl rfl ?_) | ((with_reducible refine gate_dst (N := 18) rfl ?_); refine goesL_ (some 18) rfl rfl Try.func21 (by kernel_rfl) rfl #[ptV s1 s2 s3, ptV s1 s2 s3] rfl (by (try simp only [List.map_toArray, List.map_cons, List.map_nil]); first | done | rfl) ?_; (with_reducible refine (KT.out _).mono ?_); rintro e u5 ⟨rfl, hb_⟩; refine ⟨_, rfl, ?_⟩; replace HK1 := Aside0.mk (HK1.out.on hb_); replace HA := Aside0.mk (HA.out.on hb_); replace HR := Aside0.mk (HR.out.on hb_); replace Hg5 := Aside0.mk (Hg5.out.on hb_); replace HB := Aside0.mk (bl_on HB.out hb_ HB.out.size); replace HS := Aside0.mk (Nat.le_trans HS.out hb_.size); clear hb_) | ((with_reducible refine gate_st (y := .tmp 18) rfl ?_); (try simp only [aS]); refine st_pt (x := d1) (y := d2) (f := d3) Hg5.out rfl _ _ rfl rfl rfl ?_; intro u6 hn_ hb_; replace HK1 := Aside0.mk (HK1.out.but hb_ (by have := HXg5.out; omega)); replace HA := Aside0.mk (HA.out.but hb_ (by have := HXg5.out; omega)); replace HR := Aside0.mk (HR.out.but hb_ (by have := HXg5.out; omega)); replace Hg5 := Aside0.mk hn_; replace HB := Aside0.mk (bl_but HB.out hb_ HB.out.size (by have := HXg5.out; omega)); replace HS := Aside0.mk (Nat.le_trans HS.out hb_.size); clear hn_ hb_))
    go_upto_region 7 with (first | ((with_reducible refine gate_dst (N := 19) rfl ?_); refine ld_num (HK1.out.range) rfl _ rfl rfl ?_) | ((with_reducible refine gate_dst (N := 21) rfl ?_); refine goesL_ (some 21) rfl rfl Try.func44 (by kernel_rfl) rfl #[numV k, .int .i64 (j : Int)] rfl (by (try simp only [List.map_toArray, List.map_cons, List.map_nil]); first | done | rfl) ?_; (with_reducible refine (KBj.out _).mono ?_); rintro e u7 ⟨rfl, hb_⟩; refine ⟨_, rfl, ?_⟩; replace HK1 := Aside0.mk (HK1.out.on hb_); replace HA := Aside0.mk (HA.out.on hb_); replace HR := Aside0.mk (HR.out.on hb_); replace Hg5 := Aside0.mk (Hg5.out.on hb_); replace HB := Aside0.mk (bl_on HB.out hb_ HB.out.size); replace HS := Aside0.mk (Nat.le_trans HS.out hb_.size); clear hb_))
    go_wp2
    rw [q2]
    exact ⟨⟨j, by have := HJ.out; omega, rfl, Aside0.mk (by rw [HNX.out.1, HNX.out.2.1, HNX.out.2.2]; exact Hg5.out), HK1, HA, HR, HB, HS⟩, meas_d j⟩
   ·skip
    have HNX := Aside0.mk (HN2.out hb)
    rw [hb] at KBj
    clear hb HN1 HN2
    go_upto_region 6 with (first | ((with_reducible refine gate_dst (N := 16) rfl ?_); refine ld_pt Hg5.out rfl _ rfl rfl ?_) | ((with_reducible refine gate_dst (N := 17) rfl ?_); refine ld_pt Hg5.out rfl _ rfl rfl ?_) | ((with_reducible refine gate_dst (N := 18) rfl ?_); refine goesL_ (some 18) rfl rfl Try.func21 (by kernel_rfl) rfl #[ptV s1 s2 s3, ptV s1 s2 s3] rfl (by (try simp only [List.map_toArray, List.map_cons, List.map_nil]); first | done | rfl) ?_; (with_reducible refine (KT.out _).mono ?_); rintro e u8 ⟨rfl, hb_⟩; refine ⟨_, rfl, ?_⟩; replace HK1 := Aside0.mk (HK1.out.on hb_); replace HA := Aside0.mk (HA.out.on hb_); replace HR := Aside0.mk (HR.out.on hb_); replace Hg5 := Aside0.mk (Hg5.out.on hb_); replace HB := Aside0.mk (bl_on HB.out hb_ HB.out.size); replace HS := Aside0.mk (Nat.le_trans HS.out hb_.size); clear hb_) | ((with_reducible refine gate_st (y := .tmp 18) rfl ?_); (try simp only [aS]); refine st_pt (x := d1) (y := d2) (f := d3) Hg5.out rfl _ _ rfl rfl rfl ?_; intro u9 hn_ hb_; replace HK1 := Aside0.mk (HK1.out.but hb_ (by have := HXg5.out; omega)); replace HA := Aside0.mk (HA.out.but hb_ (by have := HXg5.out; omega)); replace HR := Aside0.mk (HR.out.but hb_ (by have := HXg5.out; omega)); replace Hg5 := Aside0.mk hn_; replace HB := Aside0.mk (bl_but HB.out hb_ HB.out.size (by have := HXg5.out; omega)); replace HS := Aside0.mk (Nat.le_trans HS.out hb_.size); clear hn_ hb_))
    go_upto_region 7 with (first | ((with_reducible refine gate_dst (N := 19) rfl ?_); refine ld_num (HK1.out.range) rfl _ rfl rfl ?_) | ((with_reducible refine gate_dst (N := 21) rfl ?_); refine goesL_ (some 21) rfl rfl Try.func44 (by kernel_rfl) rfl #[numV k, .int .i64 (j : Int)] rfl (by (try simp only [List.map_toArray, List.map_cons, List.map_nil]); first | done | rfl) ?_; (with_reducible refine (KBj.out _).mono ?_); rintro e u10 ⟨rfl, hb_⟩; refine ⟨_, rfl, ?_⟩; replace HK1 := Aside0.mk (HK1.out.on hb_); replace HA := Aside0.mk (HA.out.on hb_); replace HR := Aside0.mk (HR.out.on hb_); replace Hg5 := Aside0.mk (Hg5.out.on hb_); replace HB := Aside0.mk (bl_on HB.out hb_ HB.out.size); replace HS := Aside0.mk (Nat.le_trans HS.out hb_.size); clear hb_))
    go_upto_region 8 with (fail)
    go_wp2_with (first | ((with_reducible refine gate_dst (N := 23) rfl ?_); refine ld_pt Hg5.out rfl _ rfl rfl ?_) | ((with_reducible refine gate_dst (N := 24) rfl ?_); refine ld_pt HA.out rfl _ rfl rfl ?_) | ((with_reducible refine gate_dst (N := 25) rfl ?_); refine goesL_ (some 25) rfl rfl Try.func21 (by kernel_rfl) rfl #[ptV d1 d2 d3, ptV xa ya fa] rfl (by (try simp only [List.map_toArray, List.map_cons, List.map_nil]); first | done | rfl) ?_; (with_reducible refine (KS.out _).mono ?_); rintro e u11 ⟨rfl, hb_⟩; refine ⟨_, rfl, ?_⟩; replace HK1 := Aside0.mk (HK1.out.on hb_); replace HA := Aside0.mk (HA.out.on hb_); replace HR := Aside0.mk (HR.out.on hb_); replace Hg5 := Aside0.mk (Hg5.out.on hb_); replace HB := Aside0.mk (bl_on HB.out hb_ HB.out.size); replace HS := Aside0.mk (Nat.le_trans HS.out hb_.size); clear hb_) | ((with_reducible refine gate_st (y := .tmp 25) rfl ?_); (try simp only [aS]); refine st_pt (x := e1) (y := e2) (f := e3) Hg5.out rfl _ _ rfl rfl rfl ?_; intro u12 hn_ hb_; replace HK1 := Aside0.mk (HK1.out.but hb_ (by have := HXg5.out; omega)); replace HA := Aside0.mk (HA.out.but hb_ (by have := HXg5.out; omega)); replace HR := Aside0.mk (HR.out.but hb_ (by have := HXg5.out; omega)); replace Hg5 := Aside0.mk hn_; replace HB := Aside0.mk (bl_but HB.out hb_ HB.out.size (by have := HXg5.out; omega)); replace HS := Aside0.mk (Nat.le_trans HS.out hb_.size); clear hn_ hb_))
    rw [q2]
    exact ⟨⟨j, by have := HJ.out; omega, rfl, Aside0.mk (by rw [HNX.out.1, HNX.out.2.1, HNX.out.2.2]; exact Hg5.out), HK1, HA, HR, HB, HS⟩, meas_d j⟩
end Go.Proofs.Ytkfjhndofbmhoaa
namespace Go.Proofs.Ytkfjhndofbmhoaa
open EC Go.RowKit Go.Proofs.Ytkfjhndofbmhoaa.Arr Go.Proofs.YtkfjhndofbmhoaaW.PrintWords Go.Proofs.YtkfjhndofbmhoaaW.PrintLast Go.Proofs.YtkfjhndofbmhoaaW.PrintMore
attribute [local go_sem high] eqg_num eqg_num0 eqg_pt
set_option linter.unusedVariables false
set_option linter.unusedSimpArgs false
end Go.Proofs.Ytkfjhndofbmhoaa
namespace Go.Proofs.Ytkfjhndofbmhoaa
open EC Go.RowKit Go.Proofs.Ytkfjhndofbmhoaa.Arr Go.Proofs.YtkfjhndofbmhoaaW.PrintWords Go.Proofs.YtkfjhndofbmhoaaW.PrintLast Go.Proofs.YtkfjhndofbmhoaaW.PrintMore
attribute [local go_sem high] eqg_num eqg_num0 eqg_pt
set_option linter.unusedVariables false
set_option linter.unusedSimpArgs false
theorem neq_codeS (a b : Int) (w : World) : (binOp .neq 30 (.iface 38 (.int .i64 a)) (.iface 38 (.int .i64 b))).run Try.prog w = .ok (.bool (!(a == b))) w := by
 have hu : Try.prog.underlying 30 = some (.interface ((match Try.prog.underlying 30 with | some (.interface ms) => ms | _ => #[]))) := by kernel_rfl
 have hn : Try.prog.underlying 38 = some (.int .i64) := by kernel_rfl
 obtain ⟨i, hi, hc⟩ : ∃ i, Try.prog.info? 38 = some i ∧ i.comparable = true := by
  have h : (Try.prog.info? 38).map (·.comparable) = some true := by kernel_rfl
  cases hq : Try.prog.info? 38 with
  | none => rw [hq] at h; simp at h
  | some i => rw [hq] at h; exact ⟨i, rfl, by simpa using h⟩
 simp only [binOp]
 simp [Op.equal, Op.maxDepth, run_equalIn_iface_int w 9998 a b hu hn hi hc]
attribute [local go_sem high] eql_code neq_codeS
set_option maxRecDepth 100000 in
set_option maxHeartbeats 8000000 in
theorem pmm_ok {k : Nat} {P : Pt pP} (hk : k < N256) (hP : On cb P) (w : World) :
  Calls Try.prog 5 #[numV k, vP P] w fun e w' => e = .returned (.bool true) ∧ Below w.heap.size w w' := by
 obtain ⟨xa, ya, fa, ea, na, ma⟩ := vP_form (P)
 obtain ⟨xb, yb, fb, eb, nb, mb⟩ := vP_form (sm k P)
 have KU := Aside0.mk (fun (u : World) => up_calls u)
 have Ko : Aside0 (∀ u, Calls Try.prog 13 #[ptV xa ya fa] u fun e w' => e = .returned (.bool true) ∧ Below u.heap.size u w') := Aside0.mk (fun u => by
  have h := rgOn hP u
  rw [ea] at h
  exact h)
 have KM : Aside0 (∀ u, Calls Try.prog 22 #[numV k, ptV xa ya fa] u fun e w' => e = .returned (.tuple #[ptV xb yb fb, .nilIface]) ∧ Below u.heap.size u w') := Aside0.mk (fun u => by
  have h := gMul hk hP u
  rw [ea, eb] at h
  exact h)
 have KR : Aside0 (∀ u, Calls Try.prog 23 #[numV k, ptV xa ya fa] u fun e w' => e = .returned (ptV xb yb fb) ∧ Below u.heap.size u w') := Aside0.mk (fun u => by
  have h := rgMul hk hP u
  rw [ea, eb] at h
  exact h)
 have q1 : ∀ w, (binOp .eql 26 (.agg (pw xb yb fb).toArray) (ptV xb yb fb)).run Try.prog w = .ok (.bool true) w := fun w => by
  have h := eql_pt nb mb nb mb fb fb w
  rw [decide_eq_true ⟨rfl, rfl, rfl⟩] at h
  exact h
 have gq1 : ∀ w x_ y_, (eqGuard .eql 26 x_ y_ (.agg (pw xb yb fb).toArray) (ptV xb yb fb)).run Try.prog w = .ok () w := fun w x_ y_ => eqg_pt .eql x_ y_ xb yb xb yb fb fb w
 rw [ea]
 clear hk hP ea na ma eb nb mb
 go_enter Try.func5, Try.ntmps5
 go_upto_region 1 with (fail)
 refine wp_at (w2 := (World.alloc (World.alloc w (.cells (nw k).toArray 24)) (.cells (pw xa ya fa).toArray 26))) rfl ?_
 obtain ⟨x_0, e_0, h_0, b_0, s_0⟩ := new_num w k
 obtain ⟨x_1, e_1, h_1, b_1, s_1⟩ := new_PtAt x_0 xa ya fa
 rw [e_0, e_1]
 rw [s_0] at h_1 s_1
 have HB : Aside0 (Below w.heap.size w x_1) := Aside0.mk (bl_both b_0 b_1)
 have HA : Aside0 (NAt x_1 (w.heap.size) k) := Aside0.mk (h_0.on b_1)
 have HC2 : Aside0 (PtAt x_1 (w.heap.size + 1) xa ya fa) := Aside0.mk h_1
 have HS : Aside0 (w.heap.size + 1 + 1 ≤ x_1.heap.size) := Aside0.mk (Nat.le_of_eq s_1.symm)
 clear e_0 h_0 b_0 s_0 e_1 h_1 b_1 s_1
 obtain ⟨w1, hw_⟩ : ∃ x, x = x_1 := ⟨_, rfl⟩
 subst hw_
 clear x_0
 go_upto_region 2 with (first | ((with_reducible refine gate_dst (N := 9) rfl ?_); refine goesL_ (some 9) rfl rfl Try.func9 (by kernel_rfl) rfl #[] rfl (by (try simp only [List.map_toArray, List.map_cons, List.map_nil]); first | done | rfl) ?_; (with_reducible refine (KU.out _).mono ?_); rintro e u1 ⟨rfl, hb_⟩; refine ⟨_, rfl, ?_⟩; replace HA := Aside0.mk (HA.out.on hb_); replace HC2 := Aside0.mk (HC2.out.on hb_); replace HB := Aside0.mk (bl_on HB.out hb_ HB.out.size); replace HS := Aside0.mk (Nat.le_trans HS.out hb_.size); clear hb_))
 go_upto_region 3 with (first | ((with_reducible refine gate_dst (N := 11) rfl ?_); refine ld_num (HA.out.range) rfl _ rfl rfl ?_) | ((with_reducible refine gate_dst (N := 12) rfl ?_); refine ld_pt HC2.out rfl _ rfl rfl ?_) | ((with_reducible refine gate_dst (N := 13) rfl ?_); refine goesL_ (some 13) rfl rfl Try.func22 (by kernel_rfl) rfl #[numV k, ptV xa ya fa] rfl (by (try simp only [List.map_toArray, List.map_cons, List.map_nil]); first | done | rfl) ?_; (with_reducible refine (KM.out _).mono ?_); rintro e u2 ⟨rfl, hb_⟩; refine ⟨_, rfl, ?_⟩; replace HA := Aside0.mk (HA.out.on hb_); replace HC2 := Aside0.mk (HC2.out.on hb_); replace HB := Aside0.mk (bl_on HB.out hb_ HB.out.size); replace HS := Aside0.mk (Nat.le_trans HS.out hb_.size); clear hb_) | ((with_reducible refine gate_dst (N := 6) rfl ?_); refine al_pt rfl _ rfl rfl ?_; intro g6 u3 eg_ hn_ hb_; have HXg6 : Aside0 (w.heap.size + 1 + 1 ≤ g6) := Aside0.mk (by rw [eg_]; exact HS.out); replace HA := Aside0.mk (HA.out.on hb_); replace HC2 := Aside0.mk (HC2.out.on hb_); replace HB := Aside0.mk (bl_on HB.out hb_ HB.out.size); replace HS := Aside0.mk (Nat.le_trans HS.out hb_.size); have Hg6 := Aside0.mk hn_; clear hn_ hb_ eg_) | ((with_reducible refine gate_st (y := .tmp 14) rfl ?_); (try simp only [aS]); refine st_pt (x := xb) (y := yb) (f := fb) Hg6.out rfl _ _ rfl rfl rfl ?_; intro u4 hn_ hb_; replace HA := Aside0.mk (HA.out.but hb_ (by have := HXg6.out; omega)); replace HC2 := Aside0.mk (HC2.out.but hb_ (by have := HXg6.out; omega)); replace Hg6 := Aside0.mk hn_; replace HB := Aside0.mk (bl_but HB.out hb_ HB.out.size (by have := HXg6.out; omega)); replace HS := Aside0.mk (Nat.le_trans HS.out hb_.size); clear hn_ hb_))
 go_upto_region 4 with (first | ((with_reducible refine gate_dst (N := 16) rfl ?_); refine ld_pt HC2.out rfl _ rfl rfl ?_) | ((with_reducible refine gate_dst (N := 17) rfl ?_); refine goesL_ (some 17) rfl rfl Try.func13 (by kernel_rfl) rfl #[ptV xa ya fa] rfl (by (try simp only [List.map_toArray, List.map_cons, List.map_nil]); first | done | rfl) ?_; (with_reducible refine (Ko.out _).mono ?_); rintro e u5 ⟨rfl, hb_⟩; refine ⟨_, rfl, ?_⟩; replace HA := Aside0.mk (HA.out.on hb_); replace HC2 := Aside0.mk (HC2.out.on hb_); replace Hg6 := Aside0.mk (Hg6.out.on hb_); replace HB := Aside0.mk (bl_on HB.out hb_ HB.out.size); replace HS := Aside0.mk (Nat.le_trans HS.out hb_.size); clear hb_))
 go_upto_region 6 with (fail)
 refine start_ (n := 13) (S := fun w' => Below u5.heap.size u5 w') (ds := []) (bs 13 0) (by kernel_rfl) rfl rfl ((Below.refl _ _).drew) (fun hHeld => ?_)
 refine pu_ 0 31 (bs 13 1) ?_ ?_ ?_ ?_ ?_
 rotate_left
 ·intro w'
  go_simp
  with_reducible rfl
 rotate_left
 ·simp only [aS, i64_w, i32_w]
  rfl
 refine pu_ 1 32 (bs 13 3) ?_ ?_ ?_ ?_ ?_
 rotate_left
 ·intro w'
  go_simp
  with_reducible rfl
 rotate_left
 ·simp only [aS, i64_w, i32_w]
  rfl
 refine pu_ 2 33 (bs 13 7) ?_ ?_ ?_ ?_ ?_
 rotate_left
 ·intro w'
  go_simp
  with_reducible rfl
 rotate_left
 ·simp only [aS, i64_w, i32_w]
  rfl
 refine pu_ 3 34 (bs 13 15) ?_ ?_ ?_ ?_ ?_
 rotate_left
 ·intro w'
  go_simp
  with_reducible rfl
 rotate_left
 ·simp only [aS, i64_w, i32_w]
  rfl
 refine pu_ 4 35 (bs 13 31) ?_ ?_ ?_ ?_ ?_
 rotate_left
 ·intro w'
  go_simp
  with_reducible rfl
 rotate_left
 ·simp only [aS, i64_w, i32_w]
  rfl
 refine pu_ 5 36 (bs 13 63) ?_ ?_ ?_ ?_ ?_
 rotate_left
 ·intro w'
  go_simp
  with_reducible rfl
 rotate_left
 ·simp only [aS, i64_w, i32_w]
  rfl
 refine take_ (i := 6) (N := some 37) (a' := ?_) (bs 13 127) rfl rfl (by kernel_rfl) (fun _ _ _ h => h) (yieldsIf_load_mid (by rfl) 26 (.tmp 6) rfl (g6) 0 rfl ((pw xb yb fb)) _ (fun w' hS => (Hg6.out.on hS).range) rfl rfl (rfl)) hHeld ?_ ?_
 rotate_left
 ·simp only [aS, i64_w, i32_w]
  rfl
 refine take_ (i := 7) (N := some 38) (a' := ?_) (bs 13 255) rfl rfl (by kernel_rfl) (fun _ _ _ h => h) (yields_num (g := w.heap.size) (o := 0) (n := k) (by rfl) (.tmp 2) rfl rfl (fun w' hS => (HA.out.on hS).range)) hHeld ?_ ?_
 rotate_left
 ·simp only [aS, i64_w, i32_w]
  rfl
 refine take_ (i := 8) (N := some 39) (a' := ?_) (bs 13 511) rfl rfl (by kernel_rfl) (fun _ _ _ h => h) (yieldsIf_load_mid (by rfl) 26 (.tmp 3) rfl (w.heap.size + 1) 0 rfl ((pw xa ya fa)) _ (fun w' hS => (HC2.out.on hS).range) rfl rfl (rfl)) hHeld ?_ ?_
 rotate_left
 ·simp only [aS, i64_w, i32_w]
  rfl
 refine on1_ 9 (some 40) (bs 13 1023) rfl fun K hK => ?_
 refine gs_ Try.func23 #[numV k, ptV xa ya fa] rfl ?_
 with_reducible refine (KR.out _).mono ?_
 rintro e u6 ⟨rfl, hb_u6⟩
 refine ⟨_, rfl, ?_⟩
 have hq_u6 := bl_on hHeld hb_u6 hHeld.size
 refine hK.out _ _ (hq_u6) (fun hHeld => ?_)
 clear hK K
 refine nm_ (some 40) ?_
 refine pu_ 10 41 (bs 13 2047) ?_ ?_ ?_ ?_ ?_
 rotate_left
 ·intro w'
  go_simp
  with_reducible rfl
 rotate_left
 ·simp only [aS, i64_w, i32_w]
  rfl
 refine pu_ 11 42 (bs 13 4095) ?_ ?_ ?_ ?_ ?_
 rotate_left
 ·intro w'
  go_simp
  with_reducible rfl
 rotate_left
 ·simp only [aS, i64_w, i32_w]
  rfl
 refine pu_ 12 4 (bs 13 8191) ?_ ?_ ?_ ?_ ?_
 rotate_left
 ·intro w'
  go_simp
  with_reducible rfl
 rotate_left
 ·simp only [aS, i64_w, i32_w]
  rfl
 refine done_ (by kernel_rfl) ?_
 replace HA := Aside0.mk (HA.out.on hHeld)
 replace HC2 := Aside0.mk (HC2.out.on hHeld)
 replace Hg6 := Aside0.mk (Hg6.out.on hHeld)
 replace HB := Aside0.mk (bl_on HB.out hHeld HB.out.size)
 replace HS := Aside0.mk (Nat.le_trans HS.out hHeld.size)
 clear hb_u6 hHeld
 go_wp2
 go_ret
 exact ⟨rfl, HB.out⟩
set_option maxRecDepth 100000 in
set_option maxHeartbeats 8000000 in
theorem pmm_bad {k xa ya : Nat} {fa : Bool} (hk : k < N256) (na : xa < N256) (ma : ya < N256) (ha : onB xa ya fa = false) (w : World) :
  Calls Try.prog 5 #[numV k, ptV xa ya fa] w fun e w' => e = .returned (.bool true) ∧ Below w.heap.size w w' := by
 have KU := Aside0.mk (fun (u : World) => up_calls u)
 have Ko := fun (u : World) => rOn_calls na ma fa u
 rw [ha] at Ko
 replace Ko := Aside0.mk Ko
 have em : mpV k xa ya fa = .tuple #[ptV 0 0 false, .iface 38 (.int .i64 1)] := by unfold mpV; rw [ha]; rfl
 have KM := fun (u : World) => pMul_calls (f := fa) hk na ma u
 rw [em] at KM
 replace KM := Aside0.mk KM
 have q1 : ∀ w, (binOp .eql 26 (ptV 0 0 false) (.agg #[.int .u64 0, .int .u64 0, .int .u64 0, .int .u64 0, .int .u64 0, .int .u64 0, .int .u64 0, .int .u64 0, .bool false])).run Try.prog w = .ok (.bool true) w := fun w => by
  have h := eql_pt (x := 0) (y := 0) (x' := 0) (y' := 0) N256_pos N256_pos N256_pos N256_pos false false w
  rw [decide_eq_true ⟨rfl, rfl, rfl⟩] at h
  exact h
 have gq1 : ∀ w x_ y_, (eqGuard .eql 26 x_ y_ (ptV 0 0 false) (.agg #[.int .u64 0, .int .u64 0, .int .u64 0, .int .u64 0, .int .u64 0, .int .u64 0, .int .u64 0, .int .u64 0, .bool false])).run Try.prog w = .ok () w := fun w x_ y_ => eqg_pt .eql x_ y_ 0 0 0 0 false false w
 clear hk na ma ha em
 go_enter Try.func5, Try.ntmps5
 go_upto_region 1 with (fail)
 refine wp_at (w2 := (World.alloc (World.alloc w (.cells (nw k).toArray 24)) (.cells (pw xa ya fa).toArray 26))) rfl ?_
 obtain ⟨x_0, e_0, h_0, b_0, s_0⟩ := new_num w k
 obtain ⟨x_1, e_1, h_1, b_1, s_1⟩ := new_PtAt x_0 xa ya fa
 rw [e_0, e_1]
 rw [s_0] at h_1 s_1
 have HB : Aside0 (Below w.heap.size w x_1) := Aside0.mk (bl_both b_0 b_1)
 have HA : Aside0 (NAt x_1 (w.heap.size) k) := Aside0.mk (h_0.on b_1)
 have HC2 : Aside0 (PtAt x_1 (w.heap.size + 1) xa ya fa) := Aside0.mk h_1
 have HS : Aside0 (w.heap.size + 1 + 1 ≤ x_1.heap.size) := Aside0.mk (Nat.le_of_eq s_1.symm)
 clear e_0 h_0 b_0 s_0 e_1 h_1 b_1 s_1
 obtain ⟨w1, hw_⟩ : ∃ x, x = x_1 := ⟨_, rfl⟩
 subst hw_
 clear x_0
 go_upto_region 2 with (first | ((with_reducible refine gate_dst (N := 9) rfl ?_); refine goesL_ (some 9) rfl rfl Try.func9 (by kernel_rfl) rfl #[] rfl (by (try simp only [List.map_toArray, List.map_cons, List.map_nil]); first | done | rfl) ?_; (with_reducible refine (KU.out _).mono ?_); rintro e u7 ⟨rfl, hb_⟩; refine ⟨_, rfl, ?_⟩; replace HA := Aside0.mk (HA.out.on hb_); replace HC2 := Aside0.mk (HC2.out.on hb_); replace HB := Aside0.mk (bl_on HB.out hb_ HB.out.size); replace HS := Aside0.mk (Nat.le_trans HS.out hb_.size); clear hb_))
 go_upto_region 3 with (first | ((with_reducible refine gate_dst (N := 11) rfl ?_); refine ld_num (HA.out.range) rfl _ rfl rfl ?_) | ((with_reducible refine gate_dst (N := 12) rfl ?_); refine ld_pt HC2.out rfl _ rfl rfl ?_) | ((with_reducible refine gate_dst (N := 13) rfl ?_); refine goesL_ (some 13) rfl rfl Try.func22 (by kernel_rfl) rfl #[numV k, ptV xa ya fa] rfl (by (try simp only [List.map_toArray, List.map_cons, List.map_nil]); first | done | rfl) ?_; (with_reducible refine (KM.out _).mono ?_); rintro e u8 ⟨rfl, hb_⟩; refine ⟨_, rfl, ?_⟩; replace HA := Aside0.mk (HA.out.on hb_); replace HC2 := Aside0.mk (HC2.out.on hb_); replace HB := Aside0.mk (bl_on HB.out hb_ HB.out.size); replace HS := Aside0.mk (Nat.le_trans HS.out hb_.size); clear hb_) | ((with_reducible refine gate_dst (N := 6) rfl ?_); refine al_pt rfl _ rfl rfl ?_; intro g6 u9 eg_ hn_ hb_; have HXg6 : Aside0 (w.heap.size + 1 + 1 ≤ g6) := Aside0.mk (by rw [eg_]; exact HS.out); replace HA := Aside0.mk (HA.out.on hb_); replace HC2 := Aside0.mk (HC2.out.on hb_); replace HB := Aside0.mk (bl_on HB.out hb_ HB.out.size); replace HS := Aside0.mk (Nat.le_trans HS.out hb_.size); have Hg6 := Aside0.mk hn_; clear hn_ hb_ eg_) | ((with_reducible refine gate_st (y := .tmp 14) rfl ?_); (try simp only [aS]); refine st_pt (x := 0) (y := 0) (f := false) Hg6.out rfl _ _ rfl rfl rfl ?_; intro u10 hn_ hb_; replace HA := Aside0.mk (HA.out.but hb_ (by have := HXg6.out; omega)); replace HC2 := Aside0.mk (HC2.out.but hb_ (by have := HXg6.out; omega)); replace Hg6 := Aside0.mk hn_; replace HB := Aside0.mk (bl_but HB.out hb_ HB.out.size (by have := HXg6.out; omega)); replace HS := Aside0.mk (Nat.le_trans HS.out hb_.size); clear hn_ hb_))
 go_upto_region 4 with (first | ((with_reducible refine gate_dst (N := 16) rfl ?_); refine ld_pt HC2.out rfl _ rfl rfl ?_) | ((with_reducible refine gate_dst (N := 17) rfl ?_); refine goesL_ (some 17) rfl rfl Try.func13 (by kernel_rfl) rfl #[ptV xa ya fa] rfl (by (try simp only [List.map_toArray, List.map_cons, List.map_nil]); first | done | rfl) ?_; (with_reducible refine (Ko.out _).mono ?_); rintro e u11 ⟨rfl, hb_⟩; refine ⟨_, rfl, ?_⟩; replace HA := Aside0.mk (HA.out.on hb_); replace HC2 := Aside0.mk (HC2.out.on hb_); replace Hg6 := Aside0.mk (Hg6.out.on hb_); replace HB := Aside0.mk (bl_on HB.out hb_ HB.out.size); replace HS := Aside0.mk (Nat.le_trans HS.out hb_.size); clear hb_))
 go_upto_region 5 with (fail)
 go_wp2_with (first | ((with_reducible refine gate_dst (N := 27) rfl ?_); refine ld_ptG Hg6.out (by rfl) _ rfl rfl ?_))
 go_ret
 exact ⟨rfl, HB.out⟩
theorem multiples_walk {k xa ya : Nat} {fa : Bool} (w0 : k < N256) (w1 : xa < N256 ∧ ya < N256) {w : World} :
  Calls Try.prog 5 #[numV k, ptV xa ya fa] w fun e w' => e = .returned (.bool true) ∧ Below w.heap.size w w' := by
 cases ha : onB xa ya fa
 ·exact pmm_bad w0 w1.1 w1.2 ha w
 ·rw [on_vP ha]
  exact pmm_ok w0 (on_spec ha) w
end Go.Proofs.Ytkfjhndofbmhoaa
