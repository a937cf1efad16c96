-- Laid by a program of the session (mkprint2.py): the kit's printer, and contracts by hand among what it prints.
import Derived.Test.YtikdfamhgopcdaaProg
import Derived.Below
import Derived.Deep.Draws
import Derived.Deep.AppendLies
import Derived.Maps.AppendAt
import Derived.OwnWalk
import Derived.Laws.BytesArg
import Derived.Laws.MakeOwn
import Derived.Laws.OwnMore
import Derived.Deep.OwnRows
import Derived.Tactics
import Derived.Lib.ConvBytes
import Derived.Laws.Slices
import Derived.WalkKit
import Derived.KernelRfl
import Derived.RowKit3
import Derived.Deep.LoopGhost
import Derived.Deep.QuietTactic
import Derived.BigQuiet
import Derived.WideLaws
import Derived.Deep.DeepCutAuto
import Derived.Deep.CutBlock
import Derived.Deep.RegionHeld3
import Derived.Laws.Rows
import Derived.Lib.AppendStr
import Derived.ArgAppend
import Derived.Laws.IdiomCopy
import Derived.OrdersHeld
import Derived.Laws.BitsLemmas
import Derived.LaidEql
import Derived.WalkSpells
import Derived.Lib.SlBytesConst
import Derived.RowKit
import Derived.Test.YtikdfamhgopcdaaWWords
import Derived.Test.YtikdfamhgopcdaaWLast
import Derived.Test.YtikdfamhgopcdaaWTab
import Derived.Test.YtikdfamhgopcdaaWFour
import Derived.Test.YtikdfamhgopcdaaWQPut
import Derived.Test.YtikdfamhgopcdaaWApart
import Derived.Test.YtikdfamhgopcdaaWArr
import Derived.Test.YtikdfamhgopcdaaWZeros
import Derived.Test.YtikdfamhgopcdaaWFoot
import Derived.Test.YtikdfamhgopcdaaWKept
import Derived.Test.YtikdfamhgopcdaaWShare
import Derived.Test.YtikdfamhgopcdaaWN
import Derived.Test.YtikdfamhgopcdaaWFootNe
import Derived.Test.YtikdfamhgopcdaaWAt
import Derived.Test.YtikdfamhgopcdaaWEqStruct
import Derived.Test.YtikdfamhgopcdaaWRepsOne
import Derived.Test.YtikdfamhgopcdaaWInv
import Derived.Test.YtikdfamhgopcdaaWInvWords
import Derived.Test.YtikdfamhgopcdaaWGuard
import Derived.Test.YtikdfamhgopcdaaWNEv
import Derived.Test.YtikdfamhgopcdaaWMore
namespace Go.Proofs.Ytikdfamhgopcdaa.PRevokeMerges
open Go.RowKit Go.Proofs.YtikdfamhgopcdaaW.PrintWords Go.Proofs.YtikdfamhgopcdaaW.PrintLast Go.Proofs.YtikdfamhgopcdaaW.PrintMore
attribute [local go_sem] max2_int min2_int max_two min_two max_three min_three max_four min_four   -- for this text's walks alone
set_option linter.unusedVariables false
set_option linter.unusedSimpArgs false



def errW : Option Int → Value
  | none => .nilIface
  | some c => .iface 29 (.int .i64 c)
theorem errW_none : errW none = .nilIface := rfl
theorem errW_some (c : Int) : errW (some c) = .iface 29 (.int .i64 c) := rfl

theorem info61 : (Try.prog.info? 61).map (fun i => (i.zero, i.size, i.bytes)) = some (some (.agg #[(.int .i64 0), (.int .i64 0)]), 2, 16) := by kernel_rfl
-- the values' own types
/-! #### struct type 61 -/
structure S61 where
  f0 : Int
  f1 : Int
def z61 : S61 := ⟨(0 : Int), (0 : Int)⟩
def k61 : Kd S61 := Kd.iso (Kd.pair (Kd.int .i64) (Kd.int .i64)) (fun x : S61 => (x.f0, x.f1))
theorem k61_heap : Kd.Heap k61 := Kd.heap_iso _ (Kd.heap_pair (Kd.heap_int .i64) (Kd.heap_int .i64))
theorem k61_open {w : World} {x : S61} {cs : List Value} (h : k61.K w x cs) : cs = [.int .i64 x.f0, .int .i64 x.f1] := by
  obtain ⟨_, _, rfl, rfl, rfl⟩ := h
  exact rfl
theorem k61_openM {w : World} {base : Nat} {ok : Nat → Prop} {x : S61} {cs : List Value} (h : k61.M w base ok x cs) : cs = [.int .i64 x.f0, .int .i64 x.f1] := by
  obtain ⟨_, _, rfl, rfl, rfl⟩ := h
  exact rfl
theorem k61_mk (w : World) (x : S61)  : k61.K w x [.int .i64 x.f0, .int .i64 x.f1] := ⟨[.int .i64 x.f0], [.int .i64 x.f1], rfl, rfl, rfl⟩
theorem k61_mkM (w : World) (base : Nat) (ok : Nat → Prop) (x : S61)  : k61.M w base ok x [.int .i64 x.f0, .int .i64 x.f1] := ⟨[.int .i64 x.f0], [.int .i64 x.f1], rfl, rfl, rfl⟩
theorem k61_mkF (W : World) (ok : Nat → Prop) (x : S61) : Kd.FK k61 W ok x [.int .i64 x.f0, .int .i64 x.f1] := fun W2 _ => k61_mk W2 x
def rd_T61 (xs : List S61) (i : Int) : S61 := xs.getD i.toNat z61
theorem at_T61 {w : World} {A : Option Addr} {n : Nat} {xs : List S61} (h : Kd.C k61 w A n xs) (i : Int) (h0 : 0 ≤ i) (h1 : i < n) : ∃ ad , A = some ad ∧ w.cell? (ad.add (i.toNat * 2)) = some (.int .i64 (rd_T61 xs i).f0) ∧ w.cell? ⟨(ad.add (i.toNat * 2)).block, (ad.add (i.toNat * 2)).off + 1, none⟩ = some (.int .i64 (rd_T61 xs i).f1) := by
  obtain ⟨ad, c, e, _, hK, hc0⟩ := Kd.C_get h z61 i h0 h1
  have hc : ∀ j u, c[j]? = some u → w.cell? (ad.add (i.toNat * 2 + j)) = some u := hc0
  obtain rfl := k61_open hK
  exact ⟨ad, e, hc 0 _ rfl, by rw [← add_field _ _ 1 (by omega)]; exact hc 1 _ rfl⟩

def rd_L2 (xs : List (List S61)) (i : Int) : (List S61) := xs.getD i.toNat ([] : List S61)
theorem at_L2 {w : World} {A : Option Addr} {n : Nat} {xs : List (List S61)} (h : Kd.C (Kd.slice 61 k61) w A n xs) (i : Int) (h0 : 0 ≤ i) (h1 : i < n) : ∃ ad A0 c0, A = some ad ∧ w.cell? (ad.add i.toNat) = some (.slice A0 (rd_L2 xs i).length c0) ∧ (rd_L2 xs i).length ≤ c0 ∧ k61.C w A0 (rd_L2 xs i).length (rd_L2 xs i) := by
  obtain ⟨ad, c, e, _, hK, hc0⟩ := Kd.C_get h ([] : List S61) i h0 h1
  have hc : ∀ j u, c[j]? = some u → w.cell? (ad.add (i.toNat * 1 + j)) = some u := hc0
  obtain ⟨A0, c0, rfl, l0, g0⟩ := hK
  exact ⟨ad, A0, c0, e, by have hq := hc 0 _ rfl; rwa [Nat.mul_one, Nat.add_zero] at hq, l0, g0⟩

section
variable {P : Program} (w : World)
theorem run_equalIn_iface_int (d : Nat) {ti tn : TypeId} {ms : Array (String × TypeId)} {i : TypeInfo} {k : IntKind} (a b : Int)
    (hi : P.underlying ti = some (.interface ms)) (hn : P.underlying tn = some (.int k)) (hinfo : P.info? tn = some i) (hcomp : i.comparable = true) :
    (Op.equalIn (d + 2) ti (.iface tn (.int k a)) (.iface tn (.int k b))).run P w = .ok (a == b) w := by
  simp [Op.equalIn, run_underlying hi, run_underlying hn, typeInfo, hinfo, hcomp]
theorem run_eql_iface_int {ti tn : TypeId} {ms : Array (String × TypeId)} {i : TypeInfo} {k : IntKind} (a b : Int)
    (hi : P.underlying ti = some (.interface ms)) (hn : P.underlying tn = some (.int k)) (hinfo : P.info? tn = some i) (hcomp : i.comparable = true) :
    (binOp .eql ti (.iface tn (.int k a)) (.iface tn (.int k b))).run P w = .ok (.bool (a == b)) w := by
  simp only [binOp]
  simp [Op.equal, Op.maxDepth, run_equalIn_iface_int w 9998 a b hi hn hinfo hcomp]
theorem run_neq_iface_int {ti tn : TypeId} {ms : Array (String × TypeId)} {i : TypeInfo} {k : IntKind} (a b : Int)
    (hi : P.underlying ti = some (.interface ms)) (hn : P.underlying tn = some (.int k)) (hinfo : P.info? tn = some i) (hcomp : i.comparable = true) :
    (binOp .neq ti (.iface tn (.int k a)) (.iface tn (.int k b))).run P w = .ok (.bool (a != b)) w := by
  simp only [binOp]
  simp [Op.equal, Op.maxDepth, run_equalIn_iface_int w 9998 a b hi hn hinfo hcomp, bne]
theorem run_equalIn_iface_nil (d : Nat) {ti tn : TypeId} {ms : Array (String × TypeId)} (v : Value) (hi : P.underlying ti = some (.interface ms)) :
    (Op.equalIn (d + 2) ti (.iface tn v) .nilIface).run P w = .ok false w := by
  simp [Op.equalIn, run_underlying hi]
theorem run_equalIn_nil_iface (d : Nat) {ti tn : TypeId} {ms : Array (String × TypeId)} (v : Value) (hi : P.underlying ti = some (.interface ms)) :
    (Op.equalIn (d + 2) ti .nilIface (.iface tn v)).run P w = .ok false w := by
  simp [Op.equalIn, run_underlying hi]
end
theorem u_error : Try.prog.underlying 25 = some (.interface ((match Try.prog.underlying 25 with | some (.interface ms) => ms | _ => #[]))) := by kernel_rfl
theorem u_code : Try.prog.underlying 29 = some (.int .i64) := by kernel_rfl
theorem i_code : ∃ i, Try.prog.info? 29 = some i ∧ i.comparable = true := by
  have h : (Try.prog.info? 29).map (·.comparable) = some true := by kernel_rfl
  cases hq : Try.prog.info? 29 with
  | none => rw [hq] at h; simp at h
  | some i => rw [hq] at h; exact ⟨i, rfl, by simpa using h⟩
theorem eql_code (a b : Int) (w : World) : (binOp .eql 25 (.iface 29 (.int .i64 a)) (.iface 29 (.int .i64 b))).run Try.prog w = .ok (.bool (a == b)) w := by
  obtain ⟨i, hi, hc⟩ := i_code
  exact run_eql_iface_int w a b u_error u_code hi hc
theorem neq_code (a b : Int) (w : World) : (binOp .neq 25 (.iface 29 (.int .i64 a)) (.iface 29 (.int .i64 b))).run Try.prog w = .ok (.bool (a != b)) w := by
  obtain ⟨i, hi, hc⟩ := i_code
  exact run_neq_iface_int w a b u_error u_code hi hc
theorem eql_code_nil (v : Value) (t : TypeId) (w : World) : (binOp .eql 25 (.iface t v) .nilIface).run Try.prog w = .ok (.bool false) w := by
  simp only [binOp]
  simp [Op.equal, Op.maxDepth, run_equalIn_iface_nil w 9998 v u_error]
theorem neq_code_nil (v : Value) (t : TypeId) (w : World) : (binOp .neq 25 (.iface t v) .nilIface).run Try.prog w = .ok (.bool true) w := by
  simp only [binOp]
  simp [Op.equal, Op.maxDepth, run_equalIn_iface_nil w 9998 v u_error]
theorem eql_nil_code (v : Value) (t : TypeId) (w : World) : (binOp .eql 25 .nilIface (.iface t v)).run Try.prog w = .ok (.bool false) w := by
  simp only [binOp]
  simp [Op.equal, Op.maxDepth, run_equalIn_nil_iface w 9998 v u_error]
theorem neq_nil_code (v : Value) (t : TypeId) (w : World) : (binOp .neq 25 .nilIface (.iface t v)).run Try.prog w = .ok (.bool true) w := by
  simp only [binOp]
  simp [Op.equal, Op.maxDepth, run_equalIn_nil_iface w 9998 v u_error]
theorem Kd.byteK (w : World) (n : Int) : (Kd.int .u8).K w n [Value.int .u8 n] := rfl
theorem Kd.C_one1 {α : Type} {d : Kd α} {w : World} {A : Option Addr} {x : α} {cs : List Value} {ad : Addr} (hA : A = some ad) (hK : d.K w x cs) (hl : cs.length = d.sz) (hc : ∀ i u, cs[i]? = some u → w.cell? (ad.add i) = some u) : Kd.C d w A [x].length [x] :=
  ⟨rfl, by simp, fun _ => ⟨ad, hA, fun j p hp => by
    match j, hp with
    | 0, hp =>
      obtain rfl := Option.some.inj hp
      exact ⟨cs, hl, hK, fun i u hu => by simpa using hc i u hu⟩⟩⟩
theorem cast_tmod (n : Nat) (m : Int) : Int.tmod (n : Int) m = (n : Int) % m := Int.tmod_eq_emod_of_nonneg (Int.natCast_nonneg n)
theorem u8_w (n : Int) : IntKind.u8.wrap n = n % 256 := IntKind.wrap_u8 n

end Go.Proofs.Ytikdfamhgopcdaa.PRevokeMerges
