/- '==' between two errors of one integer type (after the kit's note 10), and bytes of a block as a string. -/
import Derived.LaidEql
import Derived.Laws.BytesArg
import Derived.Test.YtpdanniolgoimaaSc
namespace Go.Proofs.Ytpdanniolgoimaa
open Go.RowKit
set_option linter.unusedVariables false
set_option linter.unusedSimpArgs false
section
variable {P : Program} (w : World)
theorem run_equalIn_iface_int (d : Nat) {ti tn : TypeId} {ms : Array (String × TypeId)} {i : TypeInfo} {k : IntKind} (a b : Int)
    (hi : P.underlying ti = some (.interface ms)) (hn : P.underlying tn = some (.int k)) (hinfo : P.info? tn = some i) (hcomp : i.comparable = true) :
    (Op.equalIn (d + 2) ti (.iface tn (.int k a)) (.iface tn (.int k b))).run P w = .ok (a == b) w := by
  simp [Op.equalIn, run_underlying hi, run_underlying hn, typeInfo, hinfo, hcomp]
theorem run_eql_iface_int {ti tn : TypeId} {ms : Array (String × TypeId)} {i : TypeInfo} {k : IntKind} (a b : Int)
    (hi : P.underlying ti = some (.interface ms)) (hn : P.underlying tn = some (.int k)) (hinfo : P.info? tn = some i) (hcomp : i.comparable = true) :
    (binOp .eql ti (.iface tn (.int k a)) (.iface tn (.int k b))).run P w = .ok (.bool (a == b)) w := by
  simp only [binOp]
  simp [Op.equal, Op.maxDepth, run_equalIn_iface_int w 9998 a b hi hn hinfo hcomp]
end
theorem eql_code (a b : Int) (w : World) : (binOp .eql 28 (.iface 31 (.int .i64 a)) (.iface 31 (.int .i64 b))).run Try.prog w = .ok (.bool (a == b)) w := by
  have hu : Try.prog.underlying 28 = some (.interface ((match Try.prog.underlying 28 with | some (.interface ms) => ms | _ => #[]))) := by kernel_rfl
  have hn : Try.prog.underlying 31 = some (.int .i64) := by kernel_rfl
  obtain ⟨i, hi, hc⟩ : ∃ i, Try.prog.info? 31 = some i ∧ i.comparable = true := by
    have h : (Try.prog.info? 31).map (·.comparable) = some true := by kernel_rfl
    cases hq : Try.prog.info? 31 with
    | none => rw [hq] at h; simp at h
    | some i => rw [hq] at h; exact ⟨i, rfl, by simpa using h⟩
  exact run_eql_iface_int w a b hu hn hi hc
/-- a row of bytes, as a string -/
def bstr (f : Nat → Nat) (m : Nat) : ByteArray := strOfNums ((List.range m).map fun j => ((f j : Nat) : Int))
theorem conv_rw {w : World} {g cap m : Nat} {f : Nat → Nat} (h : Rw w 5 g (fnB f m)) :
    (convert 25 9 (.slice (some ⟨g, 0, none⟩) m cap)).run Try.prog w = .ok (.string (bstr f m)) w := by
  unfold bstr
  refine run_convert_bytes_arg w 25 5 (by kernel_rfl) (by kernel_rfl) g 0 m cap _ (by simp) (fun i hi => ?_) 9 (by kernel_rfl)
  rw [Nat.zero_add, h.cell (fnB_get _ _ _ hi)]
  simp [hi]
end Go.Proofs.Ytpdanniolgoimaa
