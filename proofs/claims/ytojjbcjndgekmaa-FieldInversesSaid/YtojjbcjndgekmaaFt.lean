/- '==' of numbers and errors; guarded loads; the laws' odd and up. -/
import Derived.Test.YtojjbcjndgekmaaFs
import Derived.LaidEql
namespace Go.Proofs.Ytojjbcjndgekmaa
open Go.RowKit Go.Proofs.Ytojjbcjndgekmaa.Arr Go.Proofs.YtojjbcjndgekmaaW.PrintWords Go.Proofs.YtojjbcjndgekmaaW.PrintLast Go.Proofs.YtojjbcjndgekmaaW.PrintMore
set_option linter.unusedVariables false
set_option linter.unusedSimpArgs false
section
variable {P : Program} (w : World)
theorem run_equalIn_iface_int (d : Nat) {ti tn : TypeId} {ms : Array (String × TypeId)} {i : TypeInfo} {k : IntKind} (a b : Int)
    (hi : P.underlying ti = some (.interface ms)) (hn : P.underlying tn = some (.int k)) (hinfo : P.info? tn = some i) (hcomp : i.comparable = true) :
    (Op.equalIn (d + 2) ti (.iface tn (.int k a)) (.iface tn (.int k b))).run P w = .ok (a == b) w := by
  simp [Op.equalIn, run_underlying hi, run_underlying hn, typeInfo, hinfo, hcomp]
theorem run_eql_iface_int {ti tn : TypeId} {ms : Array (String × TypeId)} {i : TypeInfo} {k : IntKind} (a b : Int)
    (hi : P.underlying ti = some (.interface ms)) (hn : P.underlying tn = some (.int k)) (hinfo : P.info? tn = some i) (hcomp : i.comparable = true) :
    (binOp .eql ti (.iface tn (.int k a)) (.iface tn (.int k b))).run P w = .ok (.bool (a == b)) w := by
  simp only [binOp]
  simp [Op.equal, Op.maxDepth, run_equalIn_iface_int w 9998 a b hi hn hinfo hcomp]
end
theorem eql_code (a b : Int) (w : World) : (binOp .eql 28 (.iface 32 (.int .i64 a)) (.iface 32 (.int .i64 b))).run Try.prog w = .ok (.bool (a == b)) w := by
  have hu : Try.prog.underlying 28 = some (.interface ((match Try.prog.underlying 28 with | some (.interface ms) => ms | _ => #[]))) := by kernel_rfl
  have hn : Try.prog.underlying 32 = some (.int .i64) := by kernel_rfl
  obtain ⟨i, hi, hc⟩ : ∃ i, Try.prog.info? 32 = some i ∧ i.comparable = true := by
    have h : (Try.prog.info? 32).map (·.comparable) = some true := by kernel_rfl
    cases hq : Try.prog.info? 32 with
    | none => rw [hq] at h; simp at h
    | some i => rw [hq] at h; exact ⟨i, rfl, by simpa using h⟩
  exact run_eql_iface_int w a b hu hn hi hc
theorem eql_same (a : Nat) (w : World) : (binOp .eql 24 (numV a) (numV a)).run Try.prog w = .ok (.bool true) w := by
  rw [numV_def, eql_words]
  simp
theorem eql_five (w : World) : (binOp .eql 24 (numV 5) (.agg #[.int .u64 5, .int .u64 0, .int .u64 0, .int .u64 0])).run Try.prog w = .ok (.bool true) w := eql_same 5 w
theorem eqg_num5 (op : BinOp) (x y : Operand) (a : Nat) (w : World) : (eqGuard op 24 x y (numV a) (.agg #[.int .u64 5, .int .u64 0, .int .u64 0, .int .u64 0])).run Try.prog w = .ok () w := eqg_num op x y a 5 w
attribute [local go_sem high] eqg_num eqg_num0 eqg_num1 eqg_num5 eql_same eql_five eql_code
section
variable {ops : Array Oper} {rest : List Oper} {op : Oper} {a : Act} {w : World} {Q : Exit → Act → World → Prop}
theorem ld_numG {g o n : Nat} (h : w.rangeAt g o (nw n)) (hw : Region.wanted op (yielded ops a.tmps) = true) (x : Operand) (ho : op.op = .load 24 x) (hx : a.eval x = .pointer (some ⟨g, o, none⟩))
    (k : wpList Try.prog ops Q rest (a.put op.dst (numV n)) w) : wpList Try.prog ops Q (op :: rest) a w := by
  refine wpList_step fun K hK => ?_
  rw [if_pos hw]
  exact wp_load_mid 24 x ho g o hx (nw n) _ h rfl rfl rfl (hK _ _ k)
end
theorem b_one {b : Nat} (h : b = 1) : (((b : Nat) : Int) == 1) = true := by rw [h]; rfl
theorem b_not {b : Nat} (h : b = 0) : (((b : Nat) : Int) == 1) = false := by rw [h]; rfl
set_option maxRecDepth 100000 in
set_option maxHeartbeats 8000000 in
/-- clapperlaw02.odd -/
theorem rodd_calls (m : Nat) (w : World) (hm : m < N256) :
    Calls Try.prog 12 #[numV m] w fun e w' => e = .returned (.bool (decide (m % 2 = 1 ∧ m ≠ 1))) ∧ Below w.heap.size w w' := by
  obtain ⟨b, hb⟩ : ∃ b, b = m % 2 := ⟨_, rfl⟩
  have f1 : ((wd0 m : Nat) : Int) % 2 = (b : Int) := by rw [hb, ← wd0_even]; omega
  have q0 := fun w => neq_one hm w
  rw [numV_def m]
  by_cases hev : m % 2 = 0
  · have d1 := b_not (b := b) (by omega)
    have d2 : decide (m % 2 = 1 ∧ m ≠ 1) = false := decide_eq_false (by omega)
    rw [d2]
    clear hb hev hm d2 q0
    go_enter Try.func12, Try.ntmps12
    go_upto_region 1 with (fail)
    refine wp_at (w2 := (World.alloc w (.cells (nw m).toArray 24))) rfl ?_
    obtain ⟨x_0, e_0, h_0, b_0, s_0⟩ := new_num w m
    rw [e_0]
    have HB : Aside0 (Below w.heap.size w x_0) := Aside0.mk b_0
    have HA : Aside0 (NAt x_0 (w.heap.size) m) := Aside0.mk h_0
    have HS : Aside0 (w.heap.size + 1 ≤ x_0.heap.size) := Aside0.mk (Nat.le_of_eq s_0.symm)
    clear e_0 h_0 b_0 s_0
    obtain ⟨w1, hw_⟩ : ∃ x, x = x_0 := ⟨_, rfl⟩
    subst hw_
    have ca0 := HA.out.cell.1
    go_wp2
    go_ret
    exact ⟨rfl, HB.out⟩
  · have d1 := b_one (b := b) (by omega)
    have d2 : (!decide (m = 1)) = decide (m % 2 = 1 ∧ m ≠ 1) := by rw [Bool.eq_iff_iff]; simp; omega
    rw [d2] at q0
    generalize decide (m % 2 = 1 ∧ m ≠ 1) = D at *
    clear hb hev hm d2
    go_enter Try.func12, Try.ntmps12
    go_upto_region 1 with (fail)
    refine wp_at (w2 := (World.alloc w (.cells (nw m).toArray 24))) rfl ?_
    obtain ⟨x_0, e_0, h_0, b_0, s_0⟩ := new_num w m
    rw [e_0]
    have HB : Aside0 (Below w.heap.size w x_0) := Aside0.mk b_0
    have HA : Aside0 (NAt x_0 (w.heap.size) m) := Aside0.mk h_0
    have HS : Aside0 (w.heap.size + 1 ≤ x_0.heap.size) := Aside0.mk (Nat.le_of_eq s_0.symm)
    clear e_0 h_0 b_0 s_0
    obtain ⟨w1, hw_⟩ : ∃ x, x = x_0 := ⟨_, rfl⟩
    subst hw_
    have ca0 := HA.out.cell.1
    go_wp2_with (first | ((with_reducible refine gate_dst (N := 8) rfl ?_); refine ld_numG HA.out.range (by rfl) _ rfl rfl ?_))
    go_ret
    exact ⟨rfl, HB.out⟩
theorem inv_3_7 : invO 7 3 = some 5 := invO_some ⟨by decide, by decide⟩
theorem inv_0_7 : invO 7 0 = none := invO_none (by decide) (by decide)
set_option maxRecDepth 100000 in
set_option maxHeartbeats 8000000 in
/-- clapperlaw02.up -/
theorem up2_calls (w : World) : Calls Try.prog 10 #[] w fun e w' => e = .returned (.bool true) ∧ Below w.heap.size w w' := by
  have HN := Aside0.mk (fun u => fnew_calls 7 u (by unfold N256; omega) (by decide) (by decide))
  generalize turnN 7 = t at *
  generalize N256 % 7 = o1 at *
  generalize N512 % 7 = s1 at *
  have HI3 := Aside0.mk (fun (gf : Nat) (u : World) (h : FAt u gf 7 t o1 s1) => finv_calls 3 u h (by unfold N256; omega) (by decide) (by decide) (by unfold N256; omega))
  have HI0 := Aside0.mk (fun (gf : Nat) (u : World) (h : FAt u gf 7 t o1 s1) => finv_calls 0 u h (by unfold N256; omega) (by decide) (by decide) (by unfold N256; omega))
  unfold invV invE at HI3 HI0
  rw [inv_3_7] at HI3
  rw [inv_0_7] at HI0
  have HI3 : Aside0 (∀ (gf : Nat) (u : World) (h : FAt u gf 7 t o1 s1), Calls Try.prog 13 #[.pointer (some ⟨gf, 0, none⟩), numV 3] u fun e w' => e = .returned (.tuple #[numV 5, .nilIface]) ∧ Below u.heap.size u w') := HI3
  have HI0 : Aside0 (∀ (gf : Nat) (u : World) (h : FAt u gf 7 t o1 s1), Calls Try.prog 13 #[.pointer (some ⟨gf, 0, none⟩), numV 0] u fun e w' => e = .returned (.tuple #[numV 0, .iface 32 (.int .i64 4)]) ∧ Below u.heap.size u w') := HI0
  have HB : Aside0 (Below w.heap.size w w) := Aside0.mk (Below.refl _ _)
  have HS : Aside0 (w.heap.size ≤ w.heap.size) := Aside0.mk (Nat.le_refl _)
  go_enter Try.func10, Try.ntmps10
  go_upto_region 4 with (first | ((with_reducible refine gate_callee (f := 11) rfl ?_); refine goesL_ (some 9) rfl rfl Try.func11 (by kernel_rfl) rfl #[numV 7] rfl (by (try simp only [List.map_toArray, List.map_cons, List.map_nil]); first | done | rfl) ?_; (with_reducible refine (HN.out _).mono ?_); rintro e u1 ⟨gf, rfl, hge, hF, hb1⟩; have HF := Aside0.mk hF; have HGE := Aside0.mk hge; clear hF hge; replace HB := Aside0.mk (bl_on HB.out hb1 HB.out.size); replace HS := Aside0.mk (Nat.le_trans HS.out hb1.size); clear hb1; refine ⟨_, rfl, ?_⟩))
  go_upto_region 5 with (first | ((with_reducible refine gate_callee (f := 13) rfl ?_); refine goesL_ (some 21) rfl rfl Try.func13 (by kernel_rfl) rfl #[.pointer (some ⟨gf, 0, none⟩), numV 3] rfl (by (try simp only [List.map_toArray, List.map_cons, List.map_nil]); first | done | rfl) ?_; (with_reducible refine (HI3.out _ _ HF.out).mono ?_); rintro e u2 ⟨rfl, hb3⟩; replace HF := Aside0.mk (HF.out.on hb3); replace HB := Aside0.mk (bl_on HB.out hb3 HB.out.size); replace HS := Aside0.mk (Nat.le_trans HS.out hb3.size); clear hb3; refine ⟨_, rfl, ?_⟩) | ((with_reducible refine gate_dst (N := 3) rfl ?_); refine al_num rfl _ rfl rfl ?_; intro gA v3 eg HNA hb2; have HGA : Aside0 (gf < gA ∧ w.heap.size ≤ gA) := Aside0.mk (by rw [eg]; exact ⟨HF.out.size, HS.out⟩); replace HA := Aside0.mk HNA; clear HNA eg; replace HF := Aside0.mk (HF.out.on hb2); replace HB := Aside0.mk (bl_on HB.out hb2 HB.out.size); replace HS := Aside0.mk (Nat.le_trans HS.out hb2.size); clear hb2) | ((with_reducible refine gate_st (y := .tmp 22) rfl ?_); refine st_num (HA.out) rfl _ _ rfl rfl rfl ?_; intro u3 hA3 hT3; replace HF := Aside0.mk (HF.out.but hT3 (by have := HGA.out; omega)); replace HA := Aside0.mk hA3; replace HB := Aside0.mk (bl_but HB.out hT3 HB.out.size (by have := HGA.out; omega)); replace HS := Aside0.mk (Nat.le_trans HS.out hT3.size); clear hA3 hT3))
  go_upto_region 6 with (first | ((with_reducible refine gate_callee (f := 13) rfl ?_); refine goesL_ (some 27) rfl rfl Try.func13 (by kernel_rfl) rfl #[.pointer (some ⟨gf, 0, none⟩), numV 0] rfl (by (try simp only [List.map_toArray, List.map_cons, List.map_nil]); first | done | rfl) ?_; (with_reducible refine (HI0.out _ _ HF.out).mono ?_); rintro e u4 ⟨rfl, hb5⟩; replace HF := Aside0.mk (HF.out.on hb5); replace HA := Aside0.mk (HA.out.on hb5); replace HB := Aside0.mk (bl_on HB.out hb5 HB.out.size); replace HS := Aside0.mk (Nat.le_trans HS.out hb5.size); clear hb5; refine ⟨_, rfl, ?_⟩) | ((with_reducible refine gate_dst (N := 5) rfl ?_); refine al_num rfl _ rfl rfl ?_; intro gC v5 eg HNC hb2; have HGC : Aside0 (gf < gC ∧ w.heap.size ≤ gC ∧ gA < gC) := Aside0.mk (by rw [eg]; exact ⟨HF.out.size, HS.out, HA.out.size⟩); replace HC := Aside0.mk HNC; clear HNC eg; replace HF := Aside0.mk (HF.out.on hb2); replace HA := Aside0.mk (HA.out.on hb2); replace HB := Aside0.mk (bl_on HB.out hb2 HB.out.size); replace HS := Aside0.mk (Nat.le_trans HS.out hb2.size); clear hb2) | ((with_reducible refine gate_st (y := .tmp 28) rfl ?_); refine st_num (HC.out) rfl _ _ rfl rfl rfl ?_; intro u5 hA5 hT5; replace HF := Aside0.mk (HF.out.but hT5 (by have := HGC.out; omega)); replace HA := Aside0.mk (HA.out.but hT5 (by have := HGC.out; omega)); replace HC := Aside0.mk hA5; replace HB := Aside0.mk (bl_but HB.out hT5 HB.out.size (by have := HGC.out; omega)); replace HS := Aside0.mk (Nat.le_trans HS.out hT5.size); clear hA5 hT5))
  go_wp2_with (first | ((with_reducible refine gate_dst (N := 30) rfl ?_); refine ld_num (HA.out.range) rfl _ rfl rfl ?_))
  go_ret
  exact ⟨rfl, HB.out⟩
end Go.Proofs.Ytojjbcjndgekmaa
