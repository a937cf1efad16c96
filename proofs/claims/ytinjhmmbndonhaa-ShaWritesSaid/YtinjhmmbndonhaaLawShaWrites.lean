/- The row of ShaWrites: for every input it tells true, and what is handed in reads as it did. -/
import Derived.Test.YtinjhmmbndonhaaRows
import Derived.Test.YtinjhmmbndonhaaOpk
import Derived.Test.YtinjhmmbndonhaaPureShaWrites
import Derived.WalkKit
import Derived.ProofKit
import Derived.OpenShut
import Derived.ShutString
import Derived.ChangeOld
import Derived.Below
import Derived.SizedLaws
namespace Go.Proofs.Ytinjhmmbndonhaa.shaWrites
open Go.ChangeShapes Go.WideShapes Go.ChangeAt Go.RowKit Go.Proofs.YtinjhmmbndonhaaW.PrintWords Go.Proofs.Ytinjhmmbndonhaa.Opk Go.Proofs.Ytinjhmmbndonhaa.PShaWrites
open Go.ChangeMaps (open_string shut_string)
set_option linter.unusedVariables false
theorem own : ownKnob Try.prog.godebug = none := by kernel_rfl
theorem laidOut : laidOutB Try.prog = true := by kernel_rfl
theorem op_rows : Opens Try.prog (Kd.slice 22 (Kd.slice 5 (Kd.int .u8))) 28 (fun l => l.length ≤ maxLen ∧ ∀ x, x ∈ l → (fun l => l.length ≤ maxLen ∧ ∀ x, x ∈ l → (Lit.int .u8 x).wf = true) x) :=
  opens_slice (e := 22) (d := Kd.slice 5 (Kd.int .u8)) Try.underlying28 (by kernel_rfl) (opens_slice (e := 5) (d := Kd.int .u8) Try.underlying22 (by kernel_rfl) (opens_int Try.underlying5))
set_option maxRecDepth 100000 in
theorem lifted (os : Os) (started : os.Started) (H : Type) (enc : TypeId × Value → H) :
    ReturnsInHanded {} Try.checked os 4 .any (Rows.shaWritesSpec.pre6 enc Try.prog Try.f4 Rows.shaWritesRow.domain false) (Rows.shaWritesSpec.post enc Try.prog Try.f4 false true false false) := by
  refine returnsInHanded_of_change_sized (C := Try.checked) own started (by kernel_rfl) Try.func4
    (ChangeSpec.witness6 (enc := enc) (C := Try.checked) false ⟨#[], #[.slice none 0 0], []⟩ 8 (by kernel_rfl) (by kernel_rfl) (by kernel_rfl) (by kernel_rfl)) ?_
  intro W base args ds gs before hval0 hW hcnd hsz0 _
  have hsz : (DataW.weightsEach Try.prog (Try.f4.params.toList ++ Rows.shaWritesSpec.plain.varTypes Try.prog) (ds ++ gs)).all (· ≤ reachBytes) = true := hsz0
  have hval : ∀ (j : Nat) t v, Try.f4.params[j]? = some t → args[j]? = some v → Value.okWide Try.prog W .any base t v := hval0
  have hW' := hW
  obtain ⟨p, q, hA0, hV, rfl, hfz, hnd⟩ := hW
  have hA : DataW.TrodAll enc Try.prog W 0 (fun _ => true) true Try.f4.params.toList args.toList ds p := hA0
  rw [Try.params4] at hA hval hsz
  obtain ⟨v0, vs0, d0, ds0, p0, q0, hargs, rfl, rfl, h0, r0⟩ := trodAll_cons hA
  obtain ⟨rfl, rfl, rfl⟩ := trodAll_nil r0
  obtain rfl : args = #[v0] := by cases args; simp_all
  obtain ⟨rfl, rfl⟩ := trodVars_none hV
  have k0 := h0
  have lt0 : ∀ x ∈ p0, x.block < W.heap.size := by obtain ⟨m, hm⟩ := k0; exact DataW.trod_lt m _ _ _ hm
  obtain ⟨A0, c0, l0, rfl, hc0, hr0, hm0, hw0⟩ := open_row op_rows Try.underlying28 (hval 0 _ v0 rfl rfl) h0
  clear hA0 hval0 hsz0
  obtain ⟨k, hk⟩ := Pure.ShaWrites l0 hm0 hw0
  refine (clapperlaw03_ShaWrites.calls k A0 c0 l0 true W hr0 hc0 rfl hk).mono fun e W' ⟨he, bel⟩ => ?_
  subst he
  exact ⟨_, rfl, _, _, _, [], _, [], hW', trodAll_mk1 (shut_bool Try.underlying4 _), (trodAll_cons_mk (Below.trod laidOut (by kernel_rfl) (of_decide_eq_true (by kernel_rfl)) k0 bel lt0) trodAll_mk0), rfl, bel.frame _, fun h => by cases h⟩
theorem over : Rows.shaWritesRow.holds Try.pinned (OpenSpec.ofChange Rows.shaWritesSpec) :=
  OpenClaim.holds_of_wide 4 Try.f4 rfl rfl rfl rfl rfl rfl rfl ⟨rfl, rfl, rfl, rfl, rfl⟩ rfl rfl rfl rfl rfl (by kernel_rfl) Try.func4 (by kernel_rfl)
    (of_decide_eq_true (by kernel_rfl)) (by unfold Func.isWrapper; first | (rw [if_pos (by decide +kernel)]; kernel_rfl) | (rw [if_neg (by decide +kernel)]; exact ⟨rfl, rfl⟩))
    (fun os started H enc _ => lifted os started H enc)
theorem proved : Rows.ShaWritesSaid := over
#print axioms proved
end Go.Proofs.Ytinjhmmbndonhaa.shaWrites
namespace Go.Proofs.Ytinjhmmbndonhaa
/-- The row, under a short name, for the claim. -/
theorem shaWrites_holds : Rows.ShaWritesSaid := shaWrites.proved
end Go.Proofs.Ytinjhmmbndonhaa
