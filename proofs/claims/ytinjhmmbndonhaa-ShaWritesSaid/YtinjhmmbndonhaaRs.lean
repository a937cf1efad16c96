/- The reference's Sum: plain facts. -/
import Derived.Test.YtinjhmmbndonhaaRt
namespace Go.Proofs.Ytinjhmmbndonhaa.PShaSums
open Go.RowKit Go.Proofs.YtinjhmmbndonhaaW.PrintWords Go.Proofs.YtinjhmmbndonhaaW.PrintLast Go.Proofs.YtinjhmmbndonhaaW.PrintMore Go.Proofs.Ytinjhmmbndonhaa.Sha Go.Proofs.Ytinjhmmbndonhaa.Arr
attribute [local go_sem] max2_int min2_int max_two min_two max_three min_three max_four min_four
attribute [local go_sem high] u8_w
set_option linter.unusedVariables false
set_option linter.unusedSimpArgs false
theorem own_C {w : World} {base m k : Nat} {e : TypeId} {A : Option Addr} {b : List Nat} (h : w.ownsRow base e 1 (.slice A m k) (cN b).length (nums .u8 (cN b))) : Kd.C (Kd.int .u8) w A (cN b).length (cN b) := by
  obtain ⟨A9, c9, e9, h9⟩ := own_reads_of (enc := Value.int .u8) (d := (0 : Int)) h
  injection e9 with e1 e2 e3
  rw [e1]
  exact Kd.C_of_reads (h1 := fun _ => rfl) h9
theorem own_none {w : World} (base : Nat) {e : TypeId} {k : IntKind} : w.ownsRow base e 1 (.slice none 0 0) (cN ([] : List Nat)).length (nums k (cN ([] : List Nat))) := ⟨rfl, .inl ⟨rfl, rfl⟩⟩
theorem But.cell {B g : Nat} {a w : World} (h : But B g a w) {b i : Nat} (hb : b < B) (hg : b ≠ g) {v : Value} (hc : a.cell? ⟨b, i, none⟩ = some v) : w.cell? ⟨b, i, none⟩ = some v := by
  have e := h.block b hb hg
  simp only [World.cell?, e]
  exact hc
theorem C_but {g : Nat} {a w : World} {A : Option Addr} {n : Nat} {xs : List Int} (h : But a.heap.size g a w) (hr : Kd.C (Kd.int .u8) a A n xs) (hf : ∀ ad, A = some ad → 0 < n → ad.block ≠ g) : Kd.C (Kd.int .u8) w A n xs :=
  Kd.C_keep (enc := Value.int .u8) (h1 := fun _ => rfl) (0 : Int) hr (KB.but (row := none) h).keep hf
theorem widx (ai t t4 i0 i1 i2 i3 tn : Nat) (e4 : t4 = 4 * t) (e0 : i0 = ai + t4) (e1 : i1 = i0 + 1) (e2 : i2 = i0 + 2) (e3 : i3 = i0 + 3) (hb : i3 < tn) (ht : tn ≤ 1000001000) :
    wrap64 (4 * (t : Int)) = (t4 : Int) ∧ 4 * (t : Int) = (t4 : Int) ∧ wrap64 ((ai : Int) + (t4 : Int)) = (i0 : Int) ∧ wrap64 ((i0 : Int) + 1) = (i1 : Int) ∧ wrap64 ((i0 : Int) + 2) = (i2 : Int) ∧ wrap64 ((i0 : Int) + 3) = (i3 : Int) ∧ (i0 : Int) < (tn : Int) ∧ (i1 : Int) < (tn : Int) ∧ (i2 : Int) < (tn : Int) ∧ (i3 : Int) < (tn : Int) := by
  unfold wrap64
  exact ⟨by omega, by omega, by omega, by omega, by omega, by omega, by omega, by omega, by omega, by omega⟩
theorem wvals (x0 x1 x2 x3 y0 y1 y2 z1 z2 W : Nat) (h0 : x0 < 256) (h1 : x1 < 256) (h2 : x2 < 256) (h3 : x3 < 256) (f0 : y0 = x0 * 16777216) (f1 : y1 = x1 * 65536) (f2 : y2 = x2 * 256) (g1 : z1 = y0 + y1) (g2 : z2 = z1 + y2) (hW : W = x0 * 16777216 + x1 * 65536 + x2 * 256 + x3) :
    IntKind.u32.wrap (x0 : Int) = (x0 : Int) ∧ IntKind.u32.wrap (x1 : Int) = (x1 : Int) ∧ IntKind.u32.wrap (x2 : Int) = (x2 : Int) ∧ IntKind.u32.wrap (x3 : Int) = (x3 : Int) ∧ IntKind.u32.wrap ((x0 : Int) * 16777216) = (y0 : Int) ∧ IntKind.u32.wrap ((x1 : Int) * 65536) = (y1 : Int) ∧ IntKind.u32.wrap ((x2 : Int) * 256) = (y2 : Int) ∧ IntKind.u32.wrap ((y0 : Int) + (y1 : Int)) = (z1 : Int) ∧ IntKind.u32.wrap ((z1 : Int) + (y2 : Int)) = (z2 : Int) ∧ IntKind.u32.wrap ((z2 : Int) + (x3 : Int)) = (W : Int) := by
  simp only [IntKind.wrap_u32]
  exact ⟨by omega, by omega, by omega, by omega, by omega, by omega, by omega, by omega, by omega, by omega⟩
theorem wsub (t j15 j2 j7 j16 m : Nat) (e15 : j15 = t - 15) (e2 : j2 = t - 2) (e7 : j7 = t - 7) (e16 : j16 = t - 16) (h : 16 ≤ t) (h64 : t < 64) (hm : m = t) :
    wrap64 ((t : Int) - 15) = (j15 : Int) ∧ wrap64 ((t : Int) - 2) = (j2 : Int) ∧ wrap64 ((t : Int) - 7) = (j7 : Int) ∧ wrap64 ((t : Int) - 16) = (j16 : Int) ∧ (t : Int) - 15 = (j15 : Int) ∧ (t : Int) - 2 = (j2 : Int) ∧ (t : Int) - 7 = (j7 : Int) ∧ (t : Int) - 16 = (j16 : Int) ∧ (j15 : Int) < (m : Int) ∧ (j2 : Int) < (m : Int) ∧ (j7 : Int) < (m : Int) ∧ (j16 : Int) < (m : Int) ∧ ¬ (t : Int) < 16 ∧ (t : Int) < 64 := by
  unfold wrap64
  exact ⟨by omega, by omega, by omega, by omega, by omega, by omega, by omega, by omega, by omega, by omega, by omega, by omega, by omega, by omega⟩
theorem lt64 {t : Nat} (h : t < 64) : t + 1 ≤ 64 := h
theorem meas64 {t : Nat} (h : t < 64) : 64 - (intOf (.int .i64 ((t : Int) + 1))).toNat < 64 - (intOf (.int .i64 (t : Int))).toNat := by
  show 64 - ((t : Int) + 1).toNat < 64 - (t : Int).toNat
  omega
theorem wds_lo_c (B : List Nat) (t W : Nat) (h : t < 16) (hW : W = word B t) : cN (wds B t) ++ [(W : Int)] = cN (wds B (t + 1)) := by
  subst hW
  rw [← wds_low B t h, cN_append]
  rfl
theorem wds_hi_c (B : List Nat) (t W : Nat) (h : ¬ t < 16) (hW : W = nextw (wds B t) t) : cN (wds B t) ++ [(W : Int)] = cN (wds B (t + 1)) := by
  subst hW
  rw [← wds_high B t h, cN_append]
  rfl
theorem own_num {w : World} {base n : Nat} {e : TypeId} {v : Value} {k : IntKind} {xs : List Int} (h : w.ownsRow base e 1 v n (encs (Value.int k) xs)) : w.ownsRow base e 1 v n (nums k xs) := h
theorem drawn_trans {a b c : World} (h : Drawn0 a b) (k : Drawn0 b c) : Drawn0 a c := by
  obtain ⟨m, rfl⟩ := h
  obtain ⟨n, rfl⟩ := k
  exact ⟨⟨m + n, World.drewN_drewN ..⟩⟩
theorem drawn_below {B : Nat} {a b c : World} (d : Drawn0 b c) (h : Below B a b) : Below B a c := by
  obtain ⟨n, rfl⟩ := d
  exact ⟨h.os, h.tape, h.output, h.size, h.block⟩
theorem meas8 {t : Nat} (h : t < 8) : 8 - (intOf (.int .i64 ((t : Int) + 1))).toNat < 8 - (intOf (.int .i64 (t : Int))).toNat := by
  show 8 - ((t : Int) + 1).toNat < 8 - (t : Int).toNat
  omega
theorem far_cell (w : World) {p : Addr} {g : Nat} (h : g ≠ p.block) (u : Value) (q : Nat) : (World.drew (World.setCell w p u)).cell? ⟨g, q, none⟩ = w.cell? ⟨g, q, none⟩ := by
  have e := Below.heap_setCell w p u g h
  show (World.setCell w p u).cell? ⟨g, q, none⟩ = _
  simp only [World.cell?, e]
theorem at_next (ai tn : Nat) (h : tn ≤ 1000001000) (h2 : ai < tn) : wrap64 ((ai : Int) + 64) = (ai : Int) + 64 := by unfold wrap64; omega
theorem at_64 (i : Nat) : Value.int .i64 (((64 * i : Nat) : Int) + 64) = Value.int .i64 ((64 * (i + 1) : Nat) : Int) := by congr 1
theorem at_less (ai i nb tn : Nat) (h : ai = 64 * i) (hi : i < nb) (ht : tn = 64 * nb) : tn - (intOf (.int .i64 ((ai : Int) + 64))).toNat < tn - (intOf (.int .i64 (ai : Int))).toNat := by
  show tn - ((ai : Int) + 64).toNat < tn - (ai : Int).toNat
  omega
theorem mixl_eight (s t : H8) : mixl s.list t.list 8 = (s.add t).list := rfl
theorem inc8 {t : Nat} (h : t < 8) : wrap64 ((t : Int) + 1) = (t : Int) + 1 := by unfold wrap64; omega
theorem outs (S : H8) (hS : okH S) (j : Nat) (hj : j < 8) (x : Nat) (hx : S.list.getD j 0 = x) :
    x < 4294967296 ∧ (x : Int) / 16777216 % 256 = ((S.bytes.getD (4 * j) 0 : Nat) : Int) ∧ (x : Int) / 65536 % 256 = ((S.bytes.getD (4 * j + 1) 0 : Nat) : Int) ∧ (x : Int) / 256 % 256 = ((S.bytes.getD (4 * j + 2) 0 : Nat) : Int) ∧ (x : Int) % 256 = ((S.bytes.getD (4 * j + 3) 0 : Nat) : Int) ∧ S.bytes.getD (4 * j + 1) 0 < 256 ∧ S.bytes.getD (4 * j + 2) 0 < 256 ∧ S.bytes.getD (4 * j + 3) 0 < 256 := by
  have h0 := bytes_get S (4 * j) (by omega)
  have h1 := bytes_get S (4 * j + 1) (by omega)
  have h2 := bytes_get S (4 * j + 2) (by omega)
  have h3 := bytes_get S (4 * j + 3) (by omega)
  rw [show 4 * j / 4 = j by omega, show 24 - 8 * (4 * j % 4) = 24 by omega, hx] at h0
  rw [show (4 * j + 1) / 4 = j by omega, show 24 - 8 * ((4 * j + 1) % 4) = 16 by omega, hx] at h1
  rw [show (4 * j + 2) / 4 = j by omega, show 24 - 8 * ((4 * j + 2) % 4) = 8 by omega, hx] at h2
  rw [show (4 * j + 3) / 4 = j by omega, show 24 - 8 * ((4 * j + 3) % 4) = 0 by omega, hx] at h3
  have hl := list_lt S hS j
  rw [hx] at hl
  rw [h0, h1, h2, h3]
  refine ⟨hl, ?_, ?_, ?_, ?_, ?_, ?_, ?_⟩ <;> omega
theorem take_set4 (S : H8) (i : Nat) (h : i < 32) (y : Nat) (hy : S.bytes.getD i 0 = y) : (cN (S.bytes.take i ++ List.replicate (32 - i) 0)).set i (y : Int) = cN (S.bytes.take (i + 1) ++ List.replicate (32 - (i + 1)) 0) := by
  subst hy
  rw [cN_set, take_set S.bytes 32 i h (bytes_length S)]
theorem y_mod {y : Nat} (h : y < 256) : (y : Int) % 256 = (y : Int) := by omega
theorem tidx0 (j i0 : Nat) (h : i0 = 4 * j) (hi : i0 + 4 ≤ 32) : 4 * (j : Int) = (i0 : Int) ∧ wrap64 (4 * (j : Int)) = (i0 : Int) ∧ (i0 : Int) < 32 ∧ (0 : Int) ≤ (i0 : Int) := by
  unfold wrap64
  subst h
  exact ⟨by omega, by omega, by omega, by omega⟩
theorem tidx1 (j i0 : Nat) (h : i0 = 4 * j) (hi : i0 + 4 ≤ 32) : 4 * (j : Int) = (i0 : Int) ∧ wrap64 ((i0 : Int) + 1) = ((i0 + 1 : Nat) : Int) ∧ (((i0 + 1 : Nat) : Int) < 32) ∧ (0 : Int) ≤ ((i0 + 1 : Nat) : Int) ∧ wrap64 (4 * (j : Int)) = (i0 : Int) := by
  unfold wrap64
  subst h
  exact ⟨by omega, by omega, by omega, by omega, by omega⟩
theorem tidx2 (j i0 : Nat) (h : i0 = 4 * j) (hi : i0 + 4 ≤ 32) : 4 * (j : Int) = (i0 : Int) ∧ wrap64 ((i0 : Int) + 2) = ((i0 + 2 : Nat) : Int) ∧ (((i0 + 2 : Nat) : Int) < 32) ∧ (0 : Int) ≤ ((i0 + 2 : Nat) : Int) ∧ wrap64 (4 * (j : Int)) = (i0 : Int) := by
  unfold wrap64
  subst h
  exact ⟨by omega, by omega, by omega, by omega, by omega⟩
theorem tidx3 (j i0 : Nat) (h : i0 = 4 * j) (hi : i0 + 4 ≤ 32) : 4 * (j : Int) = (i0 : Int) ∧ wrap64 ((i0 : Int) + 3) = ((i0 + 3 : Nat) : Int) ∧ (((i0 + 3 : Nat) : Int) < 32) ∧ (0 : Int) ≤ ((i0 + 3 : Nat) : Int) ∧ wrap64 (4 * (j : Int)) = (i0 : Int) := by
  unfold wrap64
  subst h
  exact ⟨by omega, by omega, by omega, by omega, by omega⟩
theorem drawn_cell {w w' : World} (d : Drawn0 w w') {a : Addr} {v : Value} (h : w.cell? a = some v) : w'.cell? a = some v := by
  obtain ⟨n, rfl⟩ := d
  exact h
theorem arr_reads {k : IntKind} {T : TypeId} {w : World} {g : Nat} {xs : List Int} (h : Arr k T w g xs) (hl : xs.length ≤ maxLen) : ReadsInt w k (some ⟨g, 0, none⟩) xs.length xs :=
  ⟨rfl, hl, fun _ => ⟨_, rfl, fun j hj => by
    have h1 := h.cell j hj
    rw [show (⟨g, 0, none⟩ : Addr).add j = ⟨g, j, none⟩ by rw [Addr.add_mid, Nat.zero_add], h1]
    unfold rd
    rw [Int.toNat_natCast]⟩⟩
theorem iv_ok : okH IV := by unfold okH IV; decide
theorem blocks_ok (s : H8) (T : List Nat) (h : okH s) : ∀ i, okH (blocks s T i)
  | 0 => h
  | i + 1 => comp_ok _ _ (blocks_ok s T h i)
theorem lens_drop (N i : Nat) (h : i < 8) : [lenb N (7 - i)] ++ (lens N 8).drop (8 - i) = (lens N 8).drop (8 - (i + 1)) := by
  have hl : 7 - i < (lens N 8).length := by rw [lens_length]; omega
  rw [show 8 - (i + 1) = 7 - i by omega, List.drop_eq_getElem_cons hl, show 7 - i + 1 = 8 - i by omega]
  simp [lens]
theorem lens_bs (N k : Nat) (j : Nat) : ((lens N 8).drop k).getD j 0 < 256 := (Bs.lens N 8).drop k j
end Go.Proofs.Ytinjhmmbndonhaa.PShaSums
