/- '==' on digests -/
import Derived.Test.YtinjhmmbndonhaaHm
import Derived.ChangeKeysEq
import Derived.Laws.StructEq
namespace Go.Proofs.Ytinjhmmbndonhaa.PShaSums
open Go.RowKit Go.Proofs.YtinjhmmbndonhaaW.PrintWords Go.Proofs.YtinjhmmbndonhaaW.PrintLast Go.Proofs.YtinjhmmbndonhaaW.PrintMore Go.Proofs.Ytinjhmmbndonhaa.Sha Go.Proofs.Ytinjhmmbndonhaa.Arr
set_option linter.unusedVariables false
set_option linter.unusedSimpArgs false
theorem items_cons {P : Program} {d : Nat} {e : TypeId} {c : Nat} {xs ys : Array Value} {i : Nat} {is : List Nat} {a b : Value} {r s : Bool} {w : World}
    (ha : (part e xs (i * c)).run P w = .ok a w) (hb : (part e ys (i * c)).run P w = .ok b w) (he : (Op.equalIn d e a b).run P w = .ok r w) (hr : (Op.eqItems d e c xs ys is).run P w = .ok s w) : (Op.eqItems d e c xs ys (i :: is)).run P w = .ok (r && s) w := by
  rw [Op.eqItems]
  simp only [Sem.run_bind, ha, hb, he, Result.andThen_ok]
  cases r
  · simp
  · simpa using hr
theorem items_all {P : Program} {d : Nat} {e : TypeId} {xs ys : List Int} {w : World}
    (pt : ∀ (zs : List Int) (j : Nat), j < zs.length → (part e (ints .u8 zs).toArray j).run P w = .ok (.int .u8 (rd zs (j : Nat))) w)
    (eq : ∀ (a b : Int), (Op.equalIn d e (.int .u8 a) (.int .u8 b)).run P w = .ok (a == b) w) :
    ∀ is : List Nat, (∀ i ∈ is, i < xs.length ∧ i < ys.length) → (Op.eqItems d e 1 (ints .u8 xs).toArray (ints .u8 ys).toArray is).run P w = .ok (is.all fun i => rd xs (i : Nat) == rd ys (i : Nat)) w
  | [], _ => by simp [Op.eqItems]
  | i :: is, h => by
    have hi := h i (List.mem_cons_self)
    exact items_cons (by rw [Nat.mul_one]; exact pt xs i hi.1) (by rw [Nat.mul_one]; exact pt ys i hi.2) (eq _ _) (items_all pt eq is fun j hj => h j (List.mem_cons_of_mem _ hj))
theorem dig_eq (a b : List Nat) (ha : a.length = 32) (hb : b.length = 32) : ((List.range 32).all fun i => rd (cN a) (i : Nat) == rd (cN b) (i : Nat)) = decide (a = b) := by
  rw [Bool.eq_iff_iff, List.all_eq_true, decide_eq_true_eq]
  constructor
  · intro h
    apply List.ext_getElem (by omega)
    intro i h1 h2
    have := h i (by rw [List.mem_range]; omega)
    rw [rd_cN, rd_cN, beq_iff_eq] at this
    have e : a.getD i 0 = b.getD i 0 := by omega
    rwa [List.getD_eq_getElem?_getD, List.getD_eq_getElem?_getD, List.getElem?_eq_getElem h1, List.getElem?_eq_getElem h2] at e
  · rintro rfl i _
    simp
theorem eql_dig (a b : List Nat) (ha : a.length = 32) (hb : b.length = 32) (w : World) : (binOp .eql 25 (.agg (ints .u8 (cN a)).toArray) (.agg (ints .u8 (cN b)).toArray)).run Try.prog w = .ok (.bool (decide (a = b))) w := by
  have hu : Try.prog.underlying 25 = some (.array 32 5) := by kernel_rfl
  obtain ⟨i, hi⟩ : ∃ i, Try.prog.info? 5 = some i := Option.isSome_iff_exists.1 (by kernel_rfl)
  have hc : Try.prog.cellsOf 5 = 1 := by kernel_rfl
  have he : Try.prog.underlying 5 = some (.int .u8) := by kernel_rfl
  have hp : Try.prog.plainKey 5 = true := by kernel_rfl
  rw [run_eql_struct, show (10000 : Nat) = 9998 + 2 from rfl, run_equalIn_array w (9998 + 1) _ _ hu hi, hc, items_all (fun zs j hj => run_part_plain w hp (by simpa using ints_get .u8 zs j hj)) (fun x y => run_equalIn_int w 9998 _ _ _ x y he) _ (fun i hi => by rw [cN_length, cN_length]; rw [List.mem_range] at hi; omega), dig_eq a b ha hb]
  rfl
theorem sum_length (xs : List Nat) : (sum xs).length = 32 := rfl
end Go.Proofs.Ytinjhmmbndonhaa.PShaSums
