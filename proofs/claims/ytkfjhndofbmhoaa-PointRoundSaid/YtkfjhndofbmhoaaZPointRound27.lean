/- What the proof of PointRound is made of, part 27. -/
import Derived.Test.YtkfjhndofbmhoaaZPointRound2
import Derived.Test.YtkfjhndofbmhoaaZPointRound26
import Derived.Test.YtkfjhndofbmhoaaZPointRound31
import Derived.Test.YtkfjhndofbmhoaaZPointRoundh
namespace Go.Proofs.Ytkfjhndofbmhoaa
open Go.RowKit Go.ChangeShapes Go.WideShapes
set_option linter.unusedVariables false
set_option linter.unusedSimpArgs false
section
variable {H : Type} {enc : TypeId × Value → H} {P : Program} {W : World} {base : Nat} {spare : Nat → Bool} {held : Bool}
theorem num_cells {fuel : Nat} {cs : List Value} {x : DataW H × List MemPlace} (hs : cs.length = 4) (hf : DataW.trod enc Try.prog W base spare held fuel 24 cs = some x) :
  ∃ n, cs = nw n ∧ n < N256 := by
 have hu : Try.prog.underlying 24 = some (.array 4 22) := by kernel_rfl
 have hc : Try.prog.cellsOf 22 = 1 := by kernel_rfl
 have he : Try.prog.underlying 22 = some (.int .u64) := by kernel_rfl
 obtain ⟨c0, c1, c2, c3, rfl⟩ : ∃ c0 c1 c2 c3, cs = [c0, c1, c2, c3] := by
  match cs, hs with
  | [c0, c1, c2, c3], _ => exact ⟨c0, c1, c2, c3, rfl⟩
 obtain ⟨xs, m, _, _, _, hl, hx⟩ := DataW.trod_array hu hf
 have g : ∀ (i : Nat) (c : Value), i < 4 → ([c0, c1, c2, c3] : List Value)[i]? = some c → ∃ k : Nat, c = .int .u64 (k : Int) ∧ k < N64 := by
  intro i c hi hc'
  have h1 := hx i hi
  rw [hc, Nat.mul_one] at h1
  have e : (([c0, c1, c2, c3] : List Value).drop i).take 1 = [c] := by
   have : i = 0 ∨ i = 1 ∨ i = 2 ∨ i = 3 := by omega
   rcases this with rfl | rfl | rfl | rfl <;> (simp at hc'; subst hc'; rfl)
  rw [e] at h1
  obtain ⟨y, hy⟩ : ∃ y, xs[i]? = some y := ⟨xs[i]'(Nat.lt_of_lt_of_eq hi hl.symm), List.getElem?_eq_getElem (Nat.lt_of_lt_of_eq hi hl.symm)⟩
  rw [hy] at h1
  obtain ⟨n, hn, _, wn⟩ := DataW.trod_int he h1
  obtain ⟨k, rfl, hk⟩ := nat_of_wf wn
  simp at hn
  exact ⟨k, hn, hk⟩
 obtain ⟨k0, rfl, h0⟩ := g 0 _ (by omega) rfl
 obtain ⟨k1, rfl, h1⟩ := g 1 _ (by omega) rfl
 obtain ⟨k2, rfl, h2⟩ := g 2 _ (by omega) rfl
 obtain ⟨k3, rfl, h3⟩ := g 3 _ (by omega) rfl
 refine ⟨val4 k0 k1 k2 k3, ?_, val4_lt h0 h1 h2 h3⟩
 have := numV_of h0 h1 h2 h3
 rw [numV_nw] at this
 injection this with this
 exact congrArg Array.toList this
theorem cut9 (cs : List Value) (h : cs.length = 9) : cs = (cs.drop 0).take 4 ++ ((cs.drop 4).take 4 ++ (cs.drop 8).take 1) := by
 match cs, h with
 | [a0, a1, a2, a3, a4, a5, a6, a7, a8], _ => rfl
theorem list3 {α : Type} {xs : List α} (h : xs.length = 3) : ∃ y0 y1 y2, xs = [y0, y1, y2] := by
 match xs, h with
 | [y0, y1, y2], _ => exact ⟨y0, y1, y2, rfl⟩
/-- A point by value. -/
theorem open_pt {b : Nat} {v : Value} {d : DataW H} {p : List MemPlace} (hv : Value.okWide Try.prog W .any b 26 v) (h : DataW.Trod enc Try.prog W base spare held 26 v d p) :
  ∃ x y f, v = ptV x y f ∧ (x < N256 ∧ y < N256) := by
 have hu : Try.prog.underlying 26 = some (.struct (Try.prog.fieldsOf 26)) := by kernel_rfl
 have hc9 : Try.prog.cellsOf 26 = 9 := by kernel_rfl
 have hc4 : Try.prog.cellsOf 24 = 4 := by kernel_rfl
 have hc1 : Try.prog.cellsOf 4 = 1 := by kernel_rfl
 have hb : Try.prog.underlying 4 = some .bool := by kernel_rfl
 obtain ⟨cs, rfl, hs⟩ := okWide_struct hu hv
 rw [hc9] at hs
 obtain ⟨fuel, hf⟩ := h
 obtain ⟨xs, m, _, _, _, hl, hx⟩ := DataW.trod_struct hu hf
 have hp := pt_fields
 generalize Try.prog.fieldsOf 26 = fs at hp hx hl
 obtain ⟨fs⟩ := fs
 obtain ⟨f0, r0, rfl, e0, hp⟩ := List.map_eq_cons_iff.1 hp
 obtain ⟨f1, r1, rfl, e1, hp⟩ := List.map_eq_cons_iff.1 hp
 obtain ⟨f2, r2, rfl, e2, hp⟩ := List.map_eq_cons_iff.1 hp
 rw [List.map_eq_nil_iff] at hp
 subst hp
 injection e0 with n0 e0
 injection e0 with t0 o0
 injection e1 with n1 e1
 injection e1 with t1 o1
 injection e2 with n2 e2
 injection e2 with t2 o2
 have hl3 : xs.length = 3 := hl
 obtain ⟨y0, y1, y2, rfl⟩ := list3 hl3
 have h0 := hx 0 f0 rfl
 have h1 := hx 1 f1 rfl
 have h2 := hx 2 f2 rfl
 rw [t0, o0, hc4] at h0
 rw [t1, o1, hc4] at h1
 rw [t2, o2, hc1] at h2
 obtain ⟨cs⟩ := cs
 have hs9 : cs.length = 9 := hs
 change DataW.trod enc Try.prog W base spare held m 24 ((cs.drop 0).take 4) = some y0 at h0
 change DataW.trod enc Try.prog W base spare held m 24 ((cs.drop 4).take 4) = some y1 at h1
 change DataW.trod enc Try.prog W base spare held m 4 ((cs.drop 8).take 1) = some y2 at h2
 obtain ⟨x, ex, hx1⟩ := num_cells (by rw [List.length_take, List.length_drop, hs9]; rfl) h0
 obtain ⟨y, ey, hy1⟩ := num_cells (by rw [List.length_take, List.length_drop, hs9]; rfl) h1
 obtain ⟨f, ef, _⟩ := DataW.trod_bool hb h2
 refine ⟨x, y, f, ?_, hx1, hy1⟩
 unfold ptV pw
 have e := cut9 cs hs9
 rw [ex, ey, ef] at e
 rw [e]
end
end Go.Proofs.Ytkfjhndofbmhoaa
namespace Go.Proofs.Ytkfjhndofbmhoaa
open EC Go.RowKit Go.Proofs.Ytkfjhndofbmhoaa.Arr Go.Proofs.YtkfjhndofbmhoaaW.PrintWords Go.Proofs.YtkfjhndofbmhoaaW.PrintLast Go.Proofs.YtkfjhndofbmhoaaW.PrintMore
attribute [local go_sem high] eqg_num eqg_num0 eqg_pt
set_option linter.unusedVariables false
set_option linter.unusedSimpArgs false
set_option maxRecDepth 100000 in
set_option maxHeartbeats 8000000 in
theorem prd_bad {k : Nat} {xa ya : Nat} {fa : Bool} (na : xa < N256) (ma : ya < N256) (ha : onB xa ya fa = false) (w : World) :
  Calls Try.prog 7 #[numV k, ptV xa ya fa] w fun e w' => e = .returned (.bool true) ∧ Below w.heap.size w w' := by
 have KU := Aside0.mk (fun (u : World) => up_calls u)
 have Ka := fun (u : World) => pOn_calls na ma fa u
 rw [ha] at Ka
 replace Ka := Aside0.mk Ka
 clear na ma ha
 go_enter Try.func7, Try.ntmps7
 go_upto_region 1 with (fail)
 refine wp_at (w2 := (World.alloc (World.alloc w (.cells (nw k).toArray 24)) (.cells (pw xa ya fa).toArray 26))) rfl ?_
 obtain ⟨x_0, e_0, h_0, b_0, s_0⟩ := new_num w k
 obtain ⟨x_1, e_1, h_1, b_1, s_1⟩ := new_PtAt x_0 xa ya fa
 rw [e_0, e_1]
 rw [s_0] at h_1 s_1
 have HB : Aside0 (Below w.heap.size w x_1) := Aside0.mk (bl_both b_0 b_1)
 have HA : Aside0 (NAt x_1 (w.heap.size) k) := Aside0.mk (h_0.on b_1)
 have HC2 : Aside0 (PtAt x_1 (w.heap.size + 1) xa ya fa) := Aside0.mk h_1
 have HS : Aside0 (w.heap.size + 1 + 1 ≤ x_1.heap.size) := Aside0.mk (Nat.le_of_eq s_1.symm)
 clear e_0 h_0 b_0 s_0 e_1 h_1 b_1 s_1
 obtain ⟨w1, hw_⟩ : ∃ x, x = x_1 := ⟨_, rfl⟩
 subst hw_
 clear x_0
 go_upto_region 2 with (first | ((with_reducible refine gate_dst (N := 12) rfl ?_); refine goesL_ (some 12) rfl rfl Try.func9 (by kernel_rfl) rfl #[] rfl (by (try simp only [List.map_toArray, List.map_cons, List.map_nil]); first | done | rfl) ?_; (with_reducible refine (KU.out _).mono ?_); rintro e u21 ⟨rfl, hb_⟩; refine ⟨_, rfl, ?_⟩; replace HA := Aside0.mk (HA.out.on hb_); replace HC2 := Aside0.mk (HC2.out.on hb_); replace HB := Aside0.mk (bl_on HB.out hb_ HB.out.size); replace HS := Aside0.mk (Nat.le_trans HS.out hb_.size); clear hb_))
 go_upto_region 3 with (first | ((with_reducible refine gate_dst (N := 13) rfl ?_); refine ld_pt HC2.out rfl _ rfl rfl ?_) | ((with_reducible refine gate_dst (N := 14) rfl ?_); refine goesL_ (some 14) rfl rfl Try.func10 (by kernel_rfl) rfl #[ptV xa ya fa] rfl (by (try simp only [List.map_toArray, List.map_cons, List.map_nil]); first | done | rfl) ?_; (with_reducible refine (Ka.out _).mono ?_); rintro e u22 ⟨rfl, hb_⟩; refine ⟨_, rfl, ?_⟩; replace HA := Aside0.mk (HA.out.on hb_); replace HC2 := Aside0.mk (HC2.out.on hb_); replace HB := Aside0.mk (bl_on HB.out hb_ HB.out.size); replace HS := Aside0.mk (Nat.le_trans HS.out hb_.size); clear hb_))
 go_wp2
 go_ret
 exact ⟨rfl, HB.out⟩
set_option maxRecDepth 100000 in
set_option maxHeartbeats 8000000 in
theorem prd_false {k m : Nat} {P : Pt pP} (hP : On cb P) (hk : k < N256) (hm : m < N256) (KL : ∀ u, Calls Try.prog 24 #[numV k, numV nN] u fun e w' => e = .returned (.tuple #[numV m, .bool false]) ∧ Below u.heap.size u w') (hs : sm m P = sm k P) (w : World) :
  Calls Try.prog 7 #[numV k, vP P] w fun e w' => e = .returned (.bool true) ∧ Below w.heap.size w w' := by
 obtain ⟨xa, ya, fa, ea, na, ma⟩ := vP_form (P)
 obtain ⟨xb, yb, fb, eb, nb, mb⟩ := vP_form (sm k P)
 have KU := Aside0.mk (fun (u : World) => up_calls u)
 have Ka : Aside0 (∀ u, Calls Try.prog 10 #[ptV xa ya fa] u fun e w' => e = .returned (.bool true) ∧ Below u.heap.size u w') := Aside0.mk (fun u => by
  have h := gOn hP u
  rw [ea] at h
  exact h)
 replace KL := Aside0.mk KL
 have KM1 : Aside0 (∀ u, Calls Try.prog 22 #[numV k, ptV xa ya fa] u fun e w' => e = .returned (.tuple #[ptV xb yb fb, .nilIface]) ∧ Below u.heap.size u w') := Aside0.mk (fun u => by
  have h := gMul hk hP u
  rw [ea, eb] at h
  exact h)
 have KM2 : Aside0 (∀ u, Calls Try.prog 22 #[numV m, ptV xa ya fa] u fun e w' => e = .returned (.tuple #[ptV xb yb fb, .nilIface]) ∧ Below u.heap.size u w') := Aside0.mk (fun u => by
  have h := gMul hm hP u
  rw [hs, ea, eb] at h
  exact h)
 have qb : ∀ w, (binOp .eql 26 (ptV xb yb fb) (ptV xb yb fb)).run Try.prog w = .ok (.bool true) w := fun w => by
  have h := eql_pt nb mb nb mb fb fb w
  rw [decide_eq_true ⟨rfl, rfl, rfl⟩] at h
  exact h
 rw [ea]
 have K1 := Aside0.mk (fun (u : World) => cn_calls u)
 clear hP hk hm hs ea na ma eb nb mb
 go_enter Try.func7, Try.ntmps7
 go_upto_region 1 with (fail)
 refine wp_at (w2 := (World.alloc (World.alloc w (.cells (nw k).toArray 24)) (.cells (pw xa ya fa).toArray 26))) rfl ?_
 obtain ⟨x_0, e_0, h_0, b_0, s_0⟩ := new_num w k
 obtain ⟨x_1, e_1, h_1, b_1, s_1⟩ := new_PtAt x_0 xa ya fa
 rw [e_0, e_1]
 rw [s_0] at h_1 s_1
 have HB : Aside0 (Below w.heap.size w x_1) := Aside0.mk (bl_both b_0 b_1)
 have HA : Aside0 (NAt x_1 (w.heap.size) k) := Aside0.mk (h_0.on b_1)
 have HC2 : Aside0 (PtAt x_1 (w.heap.size + 1) xa ya fa) := Aside0.mk h_1
 have HS : Aside0 (w.heap.size + 1 + 1 ≤ x_1.heap.size) := Aside0.mk (Nat.le_of_eq s_1.symm)
 clear e_0 h_0 b_0 s_0 e_1 h_1 b_1 s_1
 obtain ⟨w1, hw_⟩ : ∃ x, x = x_1 := ⟨_, rfl⟩
 subst hw_
 clear x_0
 go_upto_region 2 with (first | ((with_reducible refine gate_dst (N := 12) rfl ?_); refine goesL_ (some 12) rfl rfl Try.func9 (by kernel_rfl) rfl #[] rfl (by (try simp only [List.map_toArray, List.map_cons, List.map_nil]); first | done | rfl) ?_; (with_reducible refine (KU.out _).mono ?_); rintro e u23 ⟨rfl, hb_⟩; refine ⟨_, rfl, ?_⟩; replace HA := Aside0.mk (HA.out.on hb_); replace HC2 := Aside0.mk (HC2.out.on hb_); replace HB := Aside0.mk (bl_on HB.out hb_ HB.out.size); replace HS := Aside0.mk (Nat.le_trans HS.out hb_.size); clear hb_))
 go_upto_region 4 with (first | ((with_reducible refine gate_dst (N := 13) rfl ?_); refine ld_pt HC2.out rfl _ rfl rfl ?_) | ((with_reducible refine gate_dst (N := 14) rfl ?_); refine goesL_ (some 14) rfl rfl Try.func10 (by kernel_rfl) rfl #[ptV xa ya fa] rfl (by (try simp only [List.map_toArray, List.map_cons, List.map_nil]); first | done | rfl) ?_; (with_reducible refine (Ka.out _).mono ?_); rintro e u24 ⟨rfl, hb_⟩; refine ⟨_, rfl, ?_⟩; replace HA := Aside0.mk (HA.out.on hb_); replace HC2 := Aside0.mk (HC2.out.on hb_); replace HB := Aside0.mk (bl_on HB.out hb_ HB.out.size); replace HS := Aside0.mk (Nat.le_trans HS.out hb_.size); clear hb_))
 refine start_ (n := 9) (S := fun w' => Below u24.heap.size u24 w') (ds := [7]) (bs 9 0) (by kernel_rfl) rfl rfl ((Below.refl _ _).drew) (fun hHeld => ?_)
 refine take_ (i := 0) (N := some 18) (a' := ?_) (bs 9 1) rfl rfl (by kernel_rfl) (fun _ _ _ h => h) (yields_num (g := w.heap.size) (o := 0) (n := k) (by rfl) (.tmp 2) rfl rfl (fun w' hS => (HA.out.on hS).range)) hHeld ?_ ?_
 rotate_left
 ·simp only [aS, i64_w, i32_w]
  rfl
 refine join_ (σ := Nat) 2 (bs 9 127) (fun s => [(6, .pointer (some ⟨s, 0, none⟩)), (19, numV nN), (20, .tuple #[numV m, .bool false]), (17, .tuple #[numV m, .bool false]), (21, numV m), (22, .bool false)]) (fun s w' => Below u24.heap.size u24 w' ∧ NAt w' s 0 ∧ u24.heap.size ≤ s) ?_ ?_
 rotate_left
 ·intro hCont
  refine tw_ 1 6 (some 19) (some 6) (bs 9 3) (bs 9 65) rfl rfl (fun K hK => ?_) (fun K hK => ?_)
  ·skip
   refine goes_ Try.func16 (by kernel_rfl) rfl #[] (by rfl) rfl rfl (by first | rfl | simp only [List.map_toArray, List.map_cons, List.map_nil]) ?_
   with_reducible refine (K1.out _).mono ?_
   rintro e u25 ⟨rfl, hb_u25⟩
   refine ⟨_, rfl, ?_⟩
   have hq_u25 := bl_on hHeld hb_u25 hHeld.size
   refine hK.out _ _ (hq_u25) (fun hHeld => ?_)
   clear hK K
   refine nm_ (some 19) ?_
   refine tw_ 2 6 (some 20) (some 6) (bs 9 7) (bs 9 67) rfl rfl (fun K hK => ?_) (fun K hK => ?_)
   ·skip
    refine gs_ Try.func24 #[numV k, numV nN] rfl ?_
    with_reducible refine (KL.out _).mono ?_
    rintro e u26 ⟨rfl, hb_u26⟩
    refine ⟨_, rfl, ?_⟩
    have hq_u26 := bl_on hHeld hb_u26 hHeld.size
    refine hK.out _ _ (hq_u26) (fun hHeld => ?_)
    clear hK K
    refine nm_ (some 20) ?_
    refine pu_ 3 17 (bs 9 15) ?_ ?_ ?_ ?_ ?_
    rotate_left
    ·intro w'
     go_simp
     with_reducible rfl
    rotate_left
    ·simp only [aS, i64_w, i32_w]
     rfl
    refine pu_ 4 21 (bs 9 31) ?_ ?_ ?_ ?_ ?_
    rotate_left
    ·intro w'
     go_simp
     with_reducible rfl
    rotate_left
    ·simp only [aS, i64_w, i32_w]
     rfl
    refine pu_ 5 22 (bs 9 63) ?_ ?_ ?_ ?_ ?_
    rotate_left
    ·intro w'
     go_simp
     with_reducible rfl
    rotate_left
    ·simp only [aS, i64_w, i32_w]
     rfl
    refine on1_ 6 (some 6) (bs 9 127) rfl fun K hK => ?_
    refine value_ (w1 := ?_) (v := ?_) (by rfl) rfl ?_ ?_
    rotate_left 2
    ·go_simp
     constructor
     ·rfl
     ·rfl
    have hzg6 : NAt (World.alloc u26 (.cells (nw 0).toArray 24)) (u26.heap.size) 0 := by have h_ := Row.new u26 24 (nw 0); first | exact h_ | (simp only [alloc_sz] at h_; exact h_) | omega
    have hsg6 : u24.heap.size ≤ u26.heap.size := by have h_ := hHeld.size; first | exact h_ | (simp only [alloc_sz] at h_; exact h_) | omega
    refine hK.out _ _ (below_alloc hHeld _) (fun hHeld => ?_)
    clear hK K
    refine nm_ (some 6) ?_
    exact norm_ (by simp only [putAll, aS]) (hCont (u26.heap.size) _ ⟨hHeld, hzg6, hsg6⟩)
   ·skip
    refine value_ (w1 := ?_) (v := ?_) (by rfl) rfl ?_ ?_
    rotate_left 2
    ·go_simp
     constructor
     ·rfl
     ·rfl
    have hzg6 : NAt (World.alloc u25 (.cells (nw 0).toArray 24)) (u25.heap.size) 0 := by have h_ := Row.new u25 24 (nw 0); first | exact h_ | (simp only [alloc_sz] at h_; exact h_) | omega
    have hsg6 : u24.heap.size ≤ u25.heap.size := by have h_ := hHeld.size; first | exact h_ | (simp only [alloc_sz] at h_; exact h_) | omega
    refine hK.out _ _ (below_alloc hHeld _) (fun hHeld => ?_)
    clear hK K
    refine nm_ (some 6) ?_
    refine on1_ 2 (some 20) (bs 9 71) rfl fun K hK => ?_
    refine gs_ Try.func24 #[numV k, numV nN] rfl ?_
    with_reducible refine (KL.out _).mono ?_
    rintro e u26 ⟨rfl, hb_u26⟩
    refine ⟨_, rfl, ?_⟩
    have hq_u26 := bl_on hHeld hb_u26 hHeld.size
    replace hzg6 := hzg6.on hb_u26
    refine hK.out _ _ (hq_u26) (fun hHeld => ?_)
    clear hK K
    refine nm_ (some 20) ?_
    refine pu_ 3 17 (bs 9 79) ?_ ?_ ?_ ?_ ?_
    rotate_left
    ·intro w'
     go_simp
     with_reducible rfl
    rotate_left
    ·simp only [aS, i64_w, i32_w]
     rfl
    refine pu_ 4 21 (bs 9 95) ?_ ?_ ?_ ?_ ?_
    rotate_left
    ·intro w'
     go_simp
     with_reducible rfl
    rotate_left
    ·simp only [aS, i64_w, i32_w]
     rfl
    refine pu_ 5 22 (bs 9 127) ?_ ?_ ?_ ?_ ?_
    rotate_left
    ·intro w'
     go_simp
     with_reducible rfl
    rotate_left
    ·simp only [aS, i64_w, i32_w]
     rfl
    exact norm_ (by simp only [putAll, aS]) (hCont (u25.heap.size) _ ⟨hHeld, hzg6, hsg6⟩)
  ·skip
   refine value_ (w1 := ?_) (v := ?_) (by rfl) rfl ?_ ?_
   rotate_left 2
   ·go_simp
    constructor
    ·rfl
    ·rfl
   have hzg6 : NAt (World.alloc (World.drew u24) (.cells (nw 0).toArray 24)) (u24.heap.size) 0 := by have h_ := Row.new (World.drew u24) 24 (nw 0); first | exact h_ | (simp only [alloc_sz] at h_; exact h_) | omega
   have hsg6 : u24.heap.size ≤ u24.heap.size := by have h_ := hHeld.size; first | exact h_ | (simp only [alloc_sz] at h_; exact h_) | omega
   refine hK.out _ _ (below_alloc hHeld _) (fun hHeld => ?_)
   clear hK K
   refine nm_ (some 6) ?_
   refine on1_ 1 (some 19) (bs 9 67) rfl fun K hK => ?_
   refine goes_ Try.func16 (by kernel_rfl) rfl #[] (by rfl) rfl rfl (by first | rfl | simp only [List.map_toArray, List.map_cons, List.map_nil]) ?_
   with_reducible refine (K1.out _).mono ?_
   rintro e u25 ⟨rfl, hb_u25⟩
   refine ⟨_, rfl, ?_⟩
   have hq_u25 := bl_on hHeld hb_u25 hHeld.size
   replace hzg6 := hzg6.on hb_u25
   refine hK.out _ _ (hq_u25) (fun hHeld => ?_)
   clear hK K
   refine nm_ (some 19) ?_
   refine on1_ 2 (some 20) (bs 9 71) rfl fun K hK => ?_
   refine gs_ Try.func24 #[numV k, numV nN] rfl ?_
   with_reducible refine (KL.out _).mono ?_
   rintro e u26 ⟨rfl, hb_u26⟩
   refine ⟨_, rfl, ?_⟩
   have hq_u26 := bl_on hHeld hb_u26 hHeld.size
   replace hzg6 := hzg6.on hb_u26
   refine hK.out _ _ (hq_u26) (fun hHeld => ?_)
   clear hK K
   refine nm_ (some 20) ?_
   refine pu_ 3 17 (bs 9 79) ?_ ?_ ?_ ?_ ?_
   rotate_left
   ·intro w'
    go_simp
    with_reducible rfl
   rotate_left
   ·simp only [aS, i64_w, i32_w]
    rfl
   refine pu_ 4 21 (bs 9 95) ?_ ?_ ?_ ?_ ?_
   rotate_left
   ·intro w'
    go_simp
    with_reducible rfl
   rotate_left
   ·simp only [aS, i64_w, i32_w]
    rfl
   refine pu_ 5 22 (bs 9 127) ?_ ?_ ?_ ?_ ?_
   rotate_left
   ·intro w'
    go_simp
    with_reducible rfl
   rotate_left
   ·simp only [aS, i64_w, i32_w]
    rfl
   exact norm_ (by simp only [putAll, aS]) (hCont (u24.heap.size) _ ⟨hHeld, hzg6, hsg6⟩)
 rintro g6 v27 ⟨hHeld0, hzg6, hsg6⟩
 have hHeld : Below u24.heap.size u24 v27 := hHeld0
 clear hHeld0
 refine norm_ (a' := ?_) ?_ ?_
 rotate_left
 ·simp only [putAll, aS]
  rfl
 refine last_ (i := 7) (N := none) (bs 9 255) rfl rfl (by kernel_rfl) (by decide) (fun K hK => ?_)
 refine skip_num (hzg6) (by rfl) rfl (.tmp 6) (.tmp 21) rfl rfl rfl ?_
 intro q28 hA_q28 hT_q28
 refine hK.out _ _ ?_
 clear hK K
 refine pu_ 8 7 (bs 9 511) ?_ ?_ ?_ ?_ ?_
 rotate_left
 ·intro w'
  go_simp
  with_reducible rfl
 rotate_left
 ·simp only [aS, i64_w, i32_w]
  rfl
 refine done_ (by kernel_rfl) ?_
 have HXg6 : Aside0 (w.heap.size + 1 + 1 ≤ g6) := Aside0.mk (Nat.le_trans HS.out hsg6)
 replace HA := Aside0.mk (HA.out.on hHeld)
 replace HC2 := Aside0.mk (HC2.out.on hHeld)
 replace HB := Aside0.mk (bl_on HB.out hHeld HB.out.size)
 replace HS := Aside0.mk (Nat.le_trans HS.out hHeld.size)
 replace HA := Aside0.mk (HA.out.but hT_q28 (by have := HXg6.out; omega))
 replace HC2 := Aside0.mk (HC2.out.but hT_q28 (by have := HXg6.out; omega))
 have Hg6 := Aside0.mk hA_q28
 replace HB := Aside0.mk (bl_but HB.out hT_q28 HB.out.size (by have := HXg6.out; omega))
 replace HS := Aside0.mk (Nat.le_trans HS.out hT_q28.size)
 clear hA_q28 hT_q28 hzg6 hsg6 hHeld
 go_upto_region 6 with (first | ((with_reducible refine gate_dst (N := 24) rfl ?_); refine ld_num (HA.out.range) rfl _ rfl rfl ?_) | ((with_reducible refine gate_dst (N := 25) rfl ?_); refine ld_pt HC2.out rfl _ rfl rfl ?_) | ((with_reducible refine gate_dst (N := 26) rfl ?_); refine goesL_ (some 26) rfl rfl Try.func22 (by kernel_rfl) rfl #[numV k, ptV xa ya fa] rfl (by (try simp only [List.map_toArray, List.map_cons, List.map_nil]); first | done | rfl) ?_; (with_reducible refine (KM1.out _).mono ?_); rintro e u29 ⟨rfl, hb_⟩; refine ⟨_, rfl, ?_⟩; replace HA := Aside0.mk (HA.out.on hb_); replace HC2 := Aside0.mk (HC2.out.on hb_); replace Hg6 := Aside0.mk (Hg6.out.on hb_); replace HB := Aside0.mk (bl_on HB.out hb_ HB.out.size); replace HS := Aside0.mk (Nat.le_trans HS.out hb_.size); clear hb_) | ((with_reducible refine gate_dst (N := 8) rfl ?_); refine al_pt rfl _ rfl rfl ?_; intro g8 u30 eg_ hn_ hb_; have HXg8 : Aside0 (w.heap.size + 1 + 1 ≤ g8 ∧ g6 < g8) := Aside0.mk (by rw [eg_]; exact ⟨HS.out, Hg6.out.size⟩); replace HA := Aside0.mk (HA.out.on hb_); replace HC2 := Aside0.mk (HC2.out.on hb_); replace Hg6 := Aside0.mk (Hg6.out.on hb_); replace HB := Aside0.mk (bl_on HB.out hb_ HB.out.size); replace HS := Aside0.mk (Nat.le_trans HS.out hb_.size); have Hg8 := Aside0.mk hn_; clear hn_ hb_ eg_) | ((with_reducible refine gate_st (y := .tmp 27) rfl ?_); (try simp only [aS]); refine st_pt (x := xb) (y := yb) (f := fb) Hg8.out rfl _ _ rfl rfl rfl ?_; intro u31 hn_ hb_; replace HA := Aside0.mk (HA.out.but hb_ (by have := HXg6.out; have := HXg8.out; omega)); replace HC2 := Aside0.mk (HC2.out.but hb_ (by have := HXg6.out; have := HXg8.out; omega)); replace Hg6 := Aside0.mk (Hg6.out.but hb_ (by have := HXg6.out; have := HXg8.out; omega)); replace Hg8 := Aside0.mk hn_; replace HB := Aside0.mk (bl_but HB.out hb_ HB.out.size (by have := HXg6.out; have := HXg8.out; omega)); replace HS := Aside0.mk (Nat.le_trans HS.out hb_.size); clear hn_ hb_))
 go_upto_region 7 with (first | ((with_reducible refine gate_dst (N := 30) rfl ?_); refine ld_num (Hg6.out.range) rfl _ rfl rfl ?_) | ((with_reducible refine gate_dst (N := 31) rfl ?_); refine ld_pt HC2.out rfl _ rfl rfl ?_) | ((with_reducible refine gate_dst (N := 32) rfl ?_); refine goesL_ (some 32) rfl rfl Try.func22 (by kernel_rfl) rfl #[numV m, ptV xa ya fa] rfl (by (try simp only [List.map_toArray, List.map_cons, List.map_nil]); first | done | rfl) ?_; (with_reducible refine (KM2.out _).mono ?_); rintro e u32 ⟨rfl, hb_⟩; refine ⟨_, rfl, ?_⟩; replace HA := Aside0.mk (HA.out.on hb_); replace HC2 := Aside0.mk (HC2.out.on hb_); replace Hg6 := Aside0.mk (Hg6.out.on hb_); replace Hg8 := Aside0.mk (Hg8.out.on hb_); replace HB := Aside0.mk (bl_on HB.out hb_ HB.out.size); replace HS := Aside0.mk (Nat.le_trans HS.out hb_.size); clear hb_) | ((with_reducible refine gate_dst (N := 10) rfl ?_); refine al_pt rfl _ rfl rfl ?_; intro g10 u33 eg_ hn_ hb_; have HXg10 : Aside0 (w.heap.size + 1 + 1 ≤ g10 ∧ g6 < g10 ∧ g8 < g10) := Aside0.mk (by rw [eg_]; exact ⟨HS.out, Hg6.out.size, Hg8.out.size⟩); replace HA := Aside0.mk (HA.out.on hb_); replace HC2 := Aside0.mk (HC2.out.on hb_); replace Hg6 := Aside0.mk (Hg6.out.on hb_); replace Hg8 := Aside0.mk (Hg8.out.on hb_); replace HB := Aside0.mk (bl_on HB.out hb_ HB.out.size); replace HS := Aside0.mk (Nat.le_trans HS.out hb_.size); have Hg10 := Aside0.mk hn_; clear hn_ hb_ eg_) | ((with_reducible refine gate_st (y := .tmp 33) rfl ?_); (try simp only [aS]); refine st_pt (x := xb) (y := yb) (f := fb) Hg10.out rfl _ _ rfl rfl rfl ?_; intro u34 hn_ hb_; replace HA := Aside0.mk (HA.out.but hb_ (by have := HXg6.out; have := HXg8.out; have := HXg10.out; omega)); replace HC2 := Aside0.mk (HC2.out.but hb_ (by have := HXg6.out; have := HXg8.out; have := HXg10.out; omega)); replace Hg6 := Aside0.mk (Hg6.out.but hb_ (by have := HXg6.out; have := HXg8.out; have := HXg10.out; omega)); replace Hg8 := Aside0.mk (Hg8.out.but hb_ (by have := HXg6.out; have := HXg8.out; have := HXg10.out; omega)); replace Hg10 := Aside0.mk hn_; replace HB := Aside0.mk (bl_but HB.out hb_ HB.out.size (by have := HXg6.out; have := HXg8.out; have := HXg10.out; omega)); replace HS := Aside0.mk (Nat.le_trans HS.out hb_.size); clear hn_ hb_))
 go_wp2_with (first | ((with_reducible refine gate_dst (N := 47) rfl ?_); refine ld_ptG Hg8.out (by rfl) _ rfl rfl ?_) | ((with_reducible refine gate_dst (N := 48) rfl ?_); refine ld_ptG Hg10.out (by rfl) _ rfl rfl ?_))
 go_ret
 exact ⟨rfl, HB.out⟩
set_option maxRecDepth 100000 in
set_option maxHeartbeats 8000000 in
theorem prd_true {k m : Nat} {P : Pt pP} (hP : On cb P) (hk : k < N256) (hm : m < N256) (KL : ∀ u, Calls Try.prog 24 #[numV k, numV nN] u fun e w' => e = .returned (.tuple #[numV m, .bool true]) ∧ Below u.heap.size u w') (w : World) :
  Calls Try.prog 7 #[numV k, vP P] w fun e w' => e = .returned (.bool true) ∧ Below w.heap.size w w' := by
 obtain ⟨xa, ya, fa, ea, na, ma⟩ := vP_form (P)
 obtain ⟨xb, yb, fb, eb, nb, mb⟩ := vP_form (sm k P)
 obtain ⟨xc, yc, fc, ec, nc, mc⟩ := vP_form (sm m P)
 have KU := Aside0.mk (fun (u : World) => up_calls u)
 have Ka : Aside0 (∀ u, Calls Try.prog 10 #[ptV xa ya fa] u fun e w' => e = .returned (.bool true) ∧ Below u.heap.size u w') := Aside0.mk (fun u => by
  have h := gOn hP u
  rw [ea] at h
  exact h)
 replace KL := Aside0.mk KL
 have KM1 : Aside0 (∀ u, Calls Try.prog 22 #[numV k, ptV xa ya fa] u fun e w' => e = .returned (.tuple #[ptV xb yb fb, .nilIface]) ∧ Below u.heap.size u w') := Aside0.mk (fun u => by
  have h := gMul hk hP u
  rw [ea, eb] at h
  exact h)
 have KM2 : Aside0 (∀ u, Calls Try.prog 22 #[numV m, ptV xa ya fa] u fun e w' => e = .returned (.tuple #[ptV xc yc fc, .nilIface]) ∧ Below u.heap.size u w') := Aside0.mk (fun u => by
  have h := gMul hm hP u
  rw [ea, ec] at h
  exact h)
 rw [ea]
 have K1 := Aside0.mk (fun (u : World) => cn_calls u)
 clear hP hk hm ea na ma eb nb mb ec nc mc
 go_enter Try.func7, Try.ntmps7
 go_upto_region 1 with (fail)
 refine wp_at (w2 := (World.alloc (World.alloc w (.cells (nw k).toArray 24)) (.cells (pw xa ya fa).toArray 26))) rfl ?_
 obtain ⟨x_0, e_0, h_0, b_0, s_0⟩ := new_num w k
 obtain ⟨x_1, e_1, h_1, b_1, s_1⟩ := new_PtAt x_0 xa ya fa
 rw [e_0, e_1]
 rw [s_0] at h_1 s_1
 have HB : Aside0 (Below w.heap.size w x_1) := Aside0.mk (bl_both b_0 b_1)
 have HA : Aside0 (NAt x_1 (w.heap.size) k) := Aside0.mk (h_0.on b_1)
 have HC2 : Aside0 (PtAt x_1 (w.heap.size + 1) xa ya fa) := Aside0.mk h_1
 have HS : Aside0 (w.heap.size + 1 + 1 ≤ x_1.heap.size) := Aside0.mk (Nat.le_of_eq s_1.symm)
 clear e_0 h_0 b_0 s_0 e_1 h_1 b_1 s_1
 obtain ⟨w1, hw_⟩ : ∃ x, x = x_1 := ⟨_, rfl⟩
 subst hw_
 clear x_0
 go_upto_region 2 with (first | ((with_reducible refine gate_dst (N := 12) rfl ?_); refine goesL_ (some 12) rfl rfl Try.func9 (by kernel_rfl) rfl #[] rfl (by (try simp only [List.map_toArray, List.map_cons, List.map_nil]); first | done | rfl) ?_; (with_reducible refine (KU.out _).mono ?_); rintro e u35 ⟨rfl, hb_⟩; refine ⟨_, rfl, ?_⟩; replace HA := Aside0.mk (HA.out.on hb_); replace HC2 := Aside0.mk (HC2.out.on hb_); replace HB := Aside0.mk (bl_on HB.out hb_ HB.out.size); replace HS := Aside0.mk (Nat.le_trans HS.out hb_.size); clear hb_))
 go_upto_region 4 with (first | ((with_reducible refine gate_dst (N := 13) rfl ?_); refine ld_pt HC2.out rfl _ rfl rfl ?_) | ((with_reducible refine gate_dst (N := 14) rfl ?_); refine goesL_ (some 14) rfl rfl Try.func10 (by kernel_rfl) rfl #[ptV xa ya fa] rfl (by (try simp only [List.map_toArray, List.map_cons, List.map_nil]); first | done | rfl) ?_; (with_reducible refine (Ka.out _).mono ?_); rintro e u36 ⟨rfl, hb_⟩; refine ⟨_, rfl, ?_⟩; replace HA := Aside0.mk (HA.out.on hb_); replace HC2 := Aside0.mk (HC2.out.on hb_); replace HB := Aside0.mk (bl_on HB.out hb_ HB.out.size); replace HS := Aside0.mk (Nat.le_trans HS.out hb_.size); clear hb_))
 refine start_ (n := 9) (S := fun w' => Below u36.heap.size u36 w') (ds := [7]) (bs 9 0) (by kernel_rfl) rfl rfl ((Below.refl _ _).drew) (fun hHeld => ?_)
 refine take_ (i := 0) (N := some 18) (a' := ?_) (bs 9 1) rfl rfl (by kernel_rfl) (fun _ _ _ h => h) (yields_num (g := w.heap.size) (o := 0) (n := k) (by rfl) (.tmp 2) rfl rfl (fun w' hS => (HA.out.on hS).range)) hHeld ?_ ?_
 rotate_left
 ·simp only [aS, i64_w, i32_w]
  rfl
 refine join_ (σ := Nat) 2 (bs 9 127) (fun s => [(6, .pointer (some ⟨s, 0, none⟩)), (19, numV nN), (20, .tuple #[numV m, .bool true]), (17, .tuple #[numV m, .bool true]), (21, numV m), (22, .bool true)]) (fun s w' => Below u36.heap.size u36 w' ∧ NAt w' s 0 ∧ u36.heap.size ≤ s) ?_ ?_
 rotate_left
 ·intro hCont
  refine tw_ 1 6 (some 19) (some 6) (bs 9 3) (bs 9 65) rfl rfl (fun K hK => ?_) (fun K hK => ?_)
  ·skip
   refine goes_ Try.func16 (by kernel_rfl) rfl #[] (by rfl) rfl rfl (by first | rfl | simp only [List.map_toArray, List.map_cons, List.map_nil]) ?_
   with_reducible refine (K1.out _).mono ?_
   rintro e u37 ⟨rfl, hb_u37⟩
   refine ⟨_, rfl, ?_⟩
   have hq_u37 := bl_on hHeld hb_u37 hHeld.size
   refine hK.out _ _ (hq_u37) (fun hHeld => ?_)
   clear hK K
   refine nm_ (some 19) ?_
   refine tw_ 2 6 (some 20) (some 6) (bs 9 7) (bs 9 67) rfl rfl (fun K hK => ?_) (fun K hK => ?_)
   ·skip
    refine gs_ Try.func24 #[numV k, numV nN] rfl ?_
    with_reducible refine (KL.out _).mono ?_
    rintro e u38 ⟨rfl, hb_u38⟩
    refine ⟨_, rfl, ?_⟩
    have hq_u38 := bl_on hHeld hb_u38 hHeld.size
    refine hK.out _ _ (hq_u38) (fun hHeld => ?_)
    clear hK K
    refine nm_ (some 20) ?_
    refine pu_ 3 17 (bs 9 15) ?_ ?_ ?_ ?_ ?_
    rotate_left
    ·intro w'
     go_simp
     with_reducible rfl
    rotate_left
    ·simp only [aS, i64_w, i32_w]
     rfl
    refine pu_ 4 21 (bs 9 31) ?_ ?_ ?_ ?_ ?_
    rotate_left
    ·intro w'
     go_simp
     with_reducible rfl
    rotate_left
    ·simp only [aS, i64_w, i32_w]
     rfl
    refine pu_ 5 22 (bs 9 63) ?_ ?_ ?_ ?_ ?_
    rotate_left
    ·intro w'
     go_simp
     with_reducible rfl
    rotate_left
    ·simp only [aS, i64_w, i32_w]
     rfl
    refine on1_ 6 (some 6) (bs 9 127) rfl fun K hK => ?_
    refine value_ (w1 := ?_) (v := ?_) (by rfl) rfl ?_ ?_
    rotate_left 2
    ·go_simp
     constructor
     ·rfl
     ·rfl
    have hzg6 : NAt (World.alloc u38 (.cells (nw 0).toArray 24)) (u38.heap.size) 0 := by have h_ := Row.new u38 24 (nw 0); first | exact h_ | (simp only [alloc_sz] at h_; exact h_) | omega
    have hsg6 : u36.heap.size ≤ u38.heap.size := by have h_ := hHeld.size; first | exact h_ | (simp only [alloc_sz] at h_; exact h_) | omega
    refine hK.out _ _ (below_alloc hHeld _) (fun hHeld => ?_)
    clear hK K
    refine nm_ (some 6) ?_
    exact norm_ (by simp only [putAll, aS]) (hCont (u38.heap.size) _ ⟨hHeld, hzg6, hsg6⟩)
   ·skip
    refine value_ (w1 := ?_) (v := ?_) (by rfl) rfl ?_ ?_
    rotate_left 2
    ·go_simp
     constructor
     ·rfl
     ·rfl
    have hzg6 : NAt (World.alloc u37 (.cells (nw 0).toArray 24)) (u37.heap.size) 0 := by have h_ := Row.new u37 24 (nw 0); first | exact h_ | (simp only [alloc_sz] at h_; exact h_) | omega
    have hsg6 : u36.heap.size ≤ u37.heap.size := by have h_ := hHeld.size; first | exact h_ | (simp only [alloc_sz] at h_; exact h_) | omega
    refine hK.out _ _ (below_alloc hHeld _) (fun hHeld => ?_)
    clear hK K
    refine nm_ (some 6) ?_
    refine on1_ 2 (some 20) (bs 9 71) rfl fun K hK => ?_
    refine gs_ Try.func24 #[numV k, numV nN] rfl ?_
    with_reducible refine (KL.out _).mono ?_
    rintro e u38 ⟨rfl, hb_u38⟩
    refine ⟨_, rfl, ?_⟩
    have hq_u38 := bl_on hHeld hb_u38 hHeld.size
    replace hzg6 := hzg6.on hb_u38
    refine hK.out _ _ (hq_u38) (fun hHeld => ?_)
    clear hK K
    refine nm_ (some 20) ?_
    refine pu_ 3 17 (bs 9 79) ?_ ?_ ?_ ?_ ?_
    rotate_left
    ·intro w'
     go_simp
     with_reducible rfl
    rotate_left
    ·simp only [aS, i64_w, i32_w]
     rfl
    refine pu_ 4 21 (bs 9 95) ?_ ?_ ?_ ?_ ?_
    rotate_left
    ·intro w'
     go_simp
     with_reducible rfl
    rotate_left
    ·simp only [aS, i64_w, i32_w]
     rfl
    refine pu_ 5 22 (bs 9 127) ?_ ?_ ?_ ?_ ?_
    rotate_left
    ·intro w'
     go_simp
     with_reducible rfl
    rotate_left
    ·simp only [aS, i64_w, i32_w]
     rfl
    exact norm_ (by simp only [putAll, aS]) (hCont (u37.heap.size) _ ⟨hHeld, hzg6, hsg6⟩)
  ·skip
   refine value_ (w1 := ?_) (v := ?_) (by rfl) rfl ?_ ?_
   rotate_left 2
   ·go_simp
    constructor
    ·rfl
    ·rfl
   have hzg6 : NAt (World.alloc (World.drew u36) (.cells (nw 0).toArray 24)) (u36.heap.size) 0 := by have h_ := Row.new (World.drew u36) 24 (nw 0); first | exact h_ | (simp only [alloc_sz] at h_; exact h_) | omega
   have hsg6 : u36.heap.size ≤ u36.heap.size := by have h_ := hHeld.size; first | exact h_ | (simp only [alloc_sz] at h_; exact h_) | omega
   refine hK.out _ _ (below_alloc hHeld _) (fun hHeld => ?_)
   clear hK K
   refine nm_ (some 6) ?_
   refine on1_ 1 (some 19) (bs 9 67) rfl fun K hK => ?_
   refine goes_ Try.func16 (by kernel_rfl) rfl #[] (by rfl) rfl rfl (by first | rfl | simp only [List.map_toArray, List.map_cons, List.map_nil]) ?_
   with_reducible refine (K1.out _).mono ?_
   rintro e u37 ⟨rfl, hb_u37⟩
   refine ⟨_, rfl, ?_⟩
   have hq_u37 := bl_on hHeld hb_u37 hHeld.size
   replace hzg6 := hzg6.on hb_u37
   refine hK.out _ _ (hq_u37) (fun hHeld => ?_)
   clear hK K
   refine nm_ (some 19) ?_
   refine on1_ 2 (some 20) (bs 9 71) rfl fun K hK => ?_
   refine gs_ Try.func24 #[numV k, numV nN] rfl ?_
   with_reducible refine (KL.out _).mono ?_
   rintro e u38 ⟨rfl, hb_u38⟩
   refine ⟨_, rfl, ?_⟩
   have hq_u38 := bl_on hHeld hb_u38 hHeld.size
   replace hzg6 := hzg6.on hb_u38
   refine hK.out _ _ (hq_u38) (fun hHeld => ?_)
   clear hK K
   refine nm_ (some 20) ?_
   refine pu_ 3 17 (bs 9 79) ?_ ?_ ?_ ?_ ?_
   rotate_left
   ·intro w'
    go_simp
    with_reducible rfl
   rotate_left
   ·simp only [aS, i64_w, i32_w]
    rfl
   refine pu_ 4 21 (bs 9 95) ?_ ?_ ?_ ?_ ?_
   rotate_left
   ·intro w'
    go_simp
    with_reducible rfl
   rotate_left
   ·simp only [aS, i64_w, i32_w]
    rfl
   refine pu_ 5 22 (bs 9 127) ?_ ?_ ?_ ?_ ?_
   rotate_left
   ·intro w'
    go_simp
    with_reducible rfl
   rotate_left
   ·simp only [aS, i64_w, i32_w]
    rfl
   exact norm_ (by simp only [putAll, aS]) (hCont (u36.heap.size) _ ⟨hHeld, hzg6, hsg6⟩)
 rintro g6 v39 ⟨hHeld0, hzg6, hsg6⟩
 have hHeld : Below u36.heap.size u36 v39 := hHeld0
 clear hHeld0
 refine norm_ (a' := ?_) ?_ ?_
 rotate_left
 ·simp only [putAll, aS]
  rfl
 refine last_ (i := 7) (N := none) (bs 9 255) rfl rfl (by kernel_rfl) (by decide) (fun K hK => ?_)
 refine skip_num (hzg6) (by rfl) rfl (.tmp 6) (.tmp 21) rfl rfl rfl ?_
 intro q40 hA_q40 hT_q40
 refine hK.out _ _ ?_
 clear hK K
 refine pu_ 8 7 (bs 9 511) ?_ ?_ ?_ ?_ ?_
 rotate_left
 ·intro w'
  go_simp
  with_reducible rfl
 rotate_left
 ·simp only [aS, i64_w, i32_w]
  rfl
 refine done_ (by kernel_rfl) ?_
 have HXg6 : Aside0 (w.heap.size + 1 + 1 ≤ g6) := Aside0.mk (Nat.le_trans HS.out hsg6)
 replace HA := Aside0.mk (HA.out.on hHeld)
 replace HC2 := Aside0.mk (HC2.out.on hHeld)
 replace HB := Aside0.mk (bl_on HB.out hHeld HB.out.size)
 replace HS := Aside0.mk (Nat.le_trans HS.out hHeld.size)
 replace HA := Aside0.mk (HA.out.but hT_q40 (by have := HXg6.out; omega))
 replace HC2 := Aside0.mk (HC2.out.but hT_q40 (by have := HXg6.out; omega))
 have Hg6 := Aside0.mk hA_q40
 replace HB := Aside0.mk (bl_but HB.out hT_q40 HB.out.size (by have := HXg6.out; omega))
 replace HS := Aside0.mk (Nat.le_trans HS.out hT_q40.size)
 clear hA_q40 hT_q40 hzg6 hsg6 hHeld
 go_upto_region 6 with (first | ((with_reducible refine gate_dst (N := 24) rfl ?_); refine ld_num (HA.out.range) rfl _ rfl rfl ?_) | ((with_reducible refine gate_dst (N := 25) rfl ?_); refine ld_pt HC2.out rfl _ rfl rfl ?_) | ((with_reducible refine gate_dst (N := 26) rfl ?_); refine goesL_ (some 26) rfl rfl Try.func22 (by kernel_rfl) rfl #[numV k, ptV xa ya fa] rfl (by (try simp only [List.map_toArray, List.map_cons, List.map_nil]); first | done | rfl) ?_; (with_reducible refine (KM1.out _).mono ?_); rintro e u41 ⟨rfl, hb_⟩; refine ⟨_, rfl, ?_⟩; replace HA := Aside0.mk (HA.out.on hb_); replace HC2 := Aside0.mk (HC2.out.on hb_); replace Hg6 := Aside0.mk (Hg6.out.on hb_); replace HB := Aside0.mk (bl_on HB.out hb_ HB.out.size); replace HS := Aside0.mk (Nat.le_trans HS.out hb_.size); clear hb_) | ((with_reducible refine gate_dst (N := 8) rfl ?_); refine al_pt rfl _ rfl rfl ?_; intro g8 u42 eg_ hn_ hb_; have HXg8 : Aside0 (w.heap.size + 1 + 1 ≤ g8 ∧ g6 < g8) := Aside0.mk (by rw [eg_]; exact ⟨HS.out, Hg6.out.size⟩); replace HA := Aside0.mk (HA.out.on hb_); replace HC2 := Aside0.mk (HC2.out.on hb_); replace Hg6 := Aside0.mk (Hg6.out.on hb_); replace HB := Aside0.mk (bl_on HB.out hb_ HB.out.size); replace HS := Aside0.mk (Nat.le_trans HS.out hb_.size); have Hg8 := Aside0.mk hn_; clear hn_ hb_ eg_) | ((with_reducible refine gate_st (y := .tmp 27) rfl ?_); (try simp only [aS]); refine st_pt (x := xb) (y := yb) (f := fb) Hg8.out rfl _ _ rfl rfl rfl ?_; intro u43 hn_ hb_; replace HA := Aside0.mk (HA.out.but hb_ (by have := HXg6.out; have := HXg8.out; omega)); replace HC2 := Aside0.mk (HC2.out.but hb_ (by have := HXg6.out; have := HXg8.out; omega)); replace Hg6 := Aside0.mk (Hg6.out.but hb_ (by have := HXg6.out; have := HXg8.out; omega)); replace Hg8 := Aside0.mk hn_; replace HB := Aside0.mk (bl_but HB.out hb_ HB.out.size (by have := HXg6.out; have := HXg8.out; omega)); replace HS := Aside0.mk (Nat.le_trans HS.out hb_.size); clear hn_ hb_))
 go_upto_region 7 with (first | ((with_reducible refine gate_dst (N := 30) rfl ?_); refine ld_num (Hg6.out.range) rfl _ rfl rfl ?_) | ((with_reducible refine gate_dst (N := 31) rfl ?_); refine ld_pt HC2.out rfl _ rfl rfl ?_) | ((with_reducible refine gate_dst (N := 32) rfl ?_); refine goesL_ (some 32) rfl rfl Try.func22 (by kernel_rfl) rfl #[numV m, ptV xa ya fa] rfl (by (try simp only [List.map_toArray, List.map_cons, List.map_nil]); first | done | rfl) ?_; (with_reducible refine (KM2.out _).mono ?_); rintro e u44 ⟨rfl, hb_⟩; refine ⟨_, rfl, ?_⟩; replace HA := Aside0.mk (HA.out.on hb_); replace HC2 := Aside0.mk (HC2.out.on hb_); replace Hg6 := Aside0.mk (Hg6.out.on hb_); replace Hg8 := Aside0.mk (Hg8.out.on hb_); replace HB := Aside0.mk (bl_on HB.out hb_ HB.out.size); replace HS := Aside0.mk (Nat.le_trans HS.out hb_.size); clear hb_) | ((with_reducible refine gate_dst (N := 10) rfl ?_); refine al_pt rfl _ rfl rfl ?_; intro g10 u45 eg_ hn_ hb_; have HXg10 : Aside0 (w.heap.size + 1 + 1 ≤ g10 ∧ g6 < g10 ∧ g8 < g10) := Aside0.mk (by rw [eg_]; exact ⟨HS.out, Hg6.out.size, Hg8.out.size⟩); replace HA := Aside0.mk (HA.out.on hb_); replace HC2 := Aside0.mk (HC2.out.on hb_); replace Hg6 := Aside0.mk (Hg6.out.on hb_); replace Hg8 := Aside0.mk (Hg8.out.on hb_); replace HB := Aside0.mk (bl_on HB.out hb_ HB.out.size); replace HS := Aside0.mk (Nat.le_trans HS.out hb_.size); have Hg10 := Aside0.mk hn_; clear hn_ hb_ eg_) | ((with_reducible refine gate_st (y := .tmp 33) rfl ?_); (try simp only [aS]); refine st_pt (x := xc) (y := yc) (f := fc) Hg10.out rfl _ _ rfl rfl rfl ?_; intro u46 hn_ hb_; replace HA := Aside0.mk (HA.out.but hb_ (by have := HXg6.out; have := HXg8.out; have := HXg10.out; omega)); replace HC2 := Aside0.mk (HC2.out.but hb_ (by have := HXg6.out; have := HXg8.out; have := HXg10.out; omega)); replace Hg6 := Aside0.mk (Hg6.out.but hb_ (by have := HXg6.out; have := HXg8.out; have := HXg10.out; omega)); replace Hg8 := Aside0.mk (Hg8.out.but hb_ (by have := HXg6.out; have := HXg8.out; have := HXg10.out; omega)); replace Hg10 := Aside0.mk hn_; replace HB := Aside0.mk (bl_but HB.out hb_ HB.out.size (by have := HXg6.out; have := HXg8.out; have := HXg10.out; omega)); replace HS := Aside0.mk (Nat.le_trans HS.out hb_.size); clear hn_ hb_))
 go_wp2_with (first | ((with_reducible refine gate_dst (N := 47) rfl ?_); refine ld_ptG Hg8.out (by rfl) _ rfl rfl ?_) | ((with_reducible refine gate_dst (N := 48) rfl ?_); refine ld_ptG Hg10.out (by rfl) _ rfl rfl ?_))
 go_ret
 exact ⟨rfl, HB.out⟩
theorem round_walk {k xa ya : Nat} {fa : Bool} (w0 : k < N256) (w1 : xa < N256 ∧ ya < N256) {w : World} :
  Calls Try.prog 7 #[numV k, ptV xa ya fa] w fun e w' => e = .returned (.bool true) ∧ Below w.heap.size w w' := by
 cases ha : onB xa ya fa
 ·exact prd_bad w1.1 w1.2 ha w
 ·rw [on_vP ha]
  have KL := fun u => add_calls (IsNum.mk w0) (IsNum.mk nN_lt) u
  by_cases h : k + nN < N256
  ·rw [Nat.mod_eq_of_lt h, decide_eq_false (Nat.not_le.2 h)] at KL
   exact prd_false (on_spec ha) w0 h KL (sm_round (on_spec ha) k) w
  ·rw [decide_eq_true (Nat.not_lt.1 h)] at KL
   exact prd_true (on_spec ha) w0 (Nat.mod_lt _ N256_pos) KL w
end Go.Proofs.Ytkfjhndofbmhoaa
