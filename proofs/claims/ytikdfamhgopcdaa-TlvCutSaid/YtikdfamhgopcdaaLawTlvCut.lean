/- The row of TlvCut: for every input it tells true, and what is handed in reads as it did. -/
import Derived.Test.YtikdfamhgopcdaaRows
import Derived.Test.YtikdfamhgopcdaaOpk
import Derived.Test.YtikdfamhgopcdaaPureTlvCut
import Derived.WalkKit
import Derived.ProofKit
import Derived.OpenShut
import Derived.ShutString
import Derived.ChangeOld
import Derived.Below
import Derived.SizedLaws
namespace Go.Proofs.Ytikdfamhgopcdaa.tlvCut
open Go.ChangeShapes Go.WideShapes Go.ChangeAt Go.RowKit Go.Proofs.YtikdfamhgopcdaaW.PrintWords Go.Proofs.Ytikdfamhgopcdaa.Opk Go.Proofs.Ytikdfamhgopcdaa.PTlvCut
open Go.ChangeMaps (open_string shut_string)
set_option linter.unusedVariables false
theorem own : ownKnob Try.prog.godebug = none := by kernel_rfl
theorem laidOut : laidOutB Try.prog = true := by kernel_rfl
instance : Inhabited S63 := ⟨z63⟩
theorem op_fields : Opens Try.prog (Kd.slice 63 k63) 32 (fun l => l.length ≤ maxLen ∧ ∀ x, x ∈ l → (fun x => (Lit.int .i64 x.f0).wf = true ∧ x.f1.length ≤ maxLen ∧ ∀ y, y ∈ x.f1 → (Lit.int .u8 y).wf = true) x) :=
  opens_slice (e := 63) (d := k63) Try.underlying32 (by kernel_rfl) (opens_pair (fun x : S63 => (x.f0, x.f1)) (fun a b => ⟨a, b⟩) (fun _ _ => rfl) Try.underlying63 (by kernel_rfl) (by kernel_rfl) (opens_int Try.underlying3) (opens_slice (e := 5) (d := Kd.int .u8) Try.underlying33 (by kernel_rfl) (opens_int Try.underlying5)))
set_option maxRecDepth 100000 in
theorem lifted (os : Os) (started : os.Started) (H : Type) (enc : TypeId × Value → H) :
    ReturnsInHanded {} Try.checked os 5 .any (Rows.tlvCutSpec.pre6 enc Try.prog Try.f5 Rows.tlvCutRow.domain false) (Rows.tlvCutSpec.post enc Try.prog Try.f5 false true false false) := by
  refine returnsInHanded_of_change_sized (C := Try.checked) own started (by kernel_rfl) Try.func5
    (ChangeSpec.witness6 (enc := enc) (C := Try.checked) false ⟨#[], #[.slice none 0 0, .int .i64 0], []⟩ 8 (by kernel_rfl) (by kernel_rfl) (by kernel_rfl) (by kernel_rfl)) ?_
  intro W base args ds gs before hval0 hW hcnd hsz0 _
  have hsz : (DataW.weightsEach Try.prog (Try.f5.params.toList ++ Rows.tlvCutSpec.plain.varTypes Try.prog) (ds ++ gs)).all (· ≤ reachBytes) = true := hsz0
  have hval : ∀ (j : Nat) t v, Try.f5.params[j]? = some t → args[j]? = some v → Value.okWide Try.prog W .any base t v := hval0
  have hW' := hW
  obtain ⟨p, q, hA0, hV, rfl, hfz, hnd⟩ := hW
  have hA : DataW.TrodAll enc Try.prog W 0 (fun _ => true) true Try.f5.params.toList args.toList ds p := hA0
  rw [Try.params5] at hA hval hsz
  obtain ⟨v0, vs0, d0, ds0, p0, q0, hargs, rfl, rfl, h0, r0⟩ := trodAll_cons hA
  obtain ⟨v1, vs1, d1, ds1, p1, q1, rfl, rfl, rfl, h1, r1⟩ := trodAll_cons r0
  obtain ⟨rfl, rfl, rfl⟩ := trodAll_nil r1
  obtain rfl : args = #[v0, v1] := by cases args; simp_all
  obtain ⟨rfl, rfl⟩ := trodVars_none hV
  have k0 := h0
  have lt0 : ∀ x ∈ p0, x.block < W.heap.size := by obtain ⟨m, hm⟩ := k0; exact DataW.trod_lt m _ _ _ hm
  obtain ⟨A0, c0, l0, rfl, hc0, hr0, hm0, hw0⟩ := open_row op_fields Try.underlying32 (hval 0 _ v0 rfl rfl) h0
  have k1 := h1
  have lt1 : ∀ x ∈ p1, x.block < W.heap.size := by obtain ⟨m, hm⟩ := k1; exact DataW.trod_lt m _ _ _ hm
  obtain ⟨a1, rfl, rfl, rfl, w1⟩ := open_int Try.underlying3 (hval 1 _ v1 rfl rfl) h1
  clear hA0 hval0 hsz0
  obtain ⟨k, hk⟩ := Pure.TlvCut l0 hm0 hw0 a1 w1
  refine (clapperlaw08_TlvCut.calls k A0 c0 l0 a1 true W hr0 hc0 hk).mono fun e W' ⟨he, bel⟩ => ?_
  subst he
  exact ⟨_, rfl, _, _, _, [], _, [], hW', trodAll_mk1 (shut_bool Try.underlying4 _), (trodAll_cons_mk (Below.trod laidOut (by kernel_rfl) (of_decide_eq_true (by kernel_rfl)) k0 bel lt0) (trodAll_cons_mk (Below.trod laidOut (by kernel_rfl) (of_decide_eq_true (by kernel_rfl)) k1 bel lt1) trodAll_mk0)), rfl, bel.frame _, fun h => by cases h⟩
theorem over : Rows.tlvCutRow.holds Try.pinned (OpenSpec.ofChange Rows.tlvCutSpec) :=
  OpenClaim.holds_of_wide 5 Try.f5 rfl rfl rfl rfl rfl rfl rfl ⟨rfl, rfl, rfl, rfl, rfl⟩ rfl rfl rfl rfl rfl (by kernel_rfl) Try.func5 (by kernel_rfl)
    (of_decide_eq_true (by kernel_rfl)) (by unfold Func.isWrapper; first | (rw [if_pos (by decide +kernel)]; kernel_rfl) | (rw [if_neg (by decide +kernel)]; exact ⟨rfl, rfl⟩))
    (fun os started H enc _ => lifted os started H enc)
theorem proved : Rows.TlvCutSaid := over
#print axioms proved
end Go.Proofs.Ytikdfamhgopcdaa.tlvCut
namespace Go.Proofs.Ytikdfamhgopcdaa
/-- The row, under a short name, for the claim. -/
theorem tlvCut_holds : Rows.TlvCutSaid := tlvCut.proved
end Go.Proofs.Ytikdfamhgopcdaa
