/- What the proof of NonceLists is made of, part 12. -/
import Derived.Test.YtojlhmmmiebbmaaZNonceLists11
namespace Go.Proofs.Ytojlhmmmiebbmaa.PNonceLists
open Go.RowKit Go.Proofs.YtojlhmmmiebbmaaW.PrintWords Go.Proofs.YtojlhmmmiebbmaaW.PrintLast Go.Proofs.YtojlhmmmiebbmaaW.PrintMore Go.Proofs.Ytojlhmmmiebbmaa.Sha Go.Proofs.Ytojlhmmmiebbmaa.Arr
attribute [local go_sem] max2_int min2_int max_two min_two max_three min_three max_four min_four
attribute [local go_sem high] u8_w
set_option linter.unusedVariables false
set_option linter.unusedSimpArgs false
theorem run_len : ∀ (n : Nat) (s : H8) (b : List Nat), b.length ≤ n → (run s b).2.length = b.length % 64 := by
  intro n
  induction n with
  | zero => intro s b h; rw [run_end s b (by omega)]; show b.length = _; omega
  | succ n ih =>
    intro s b h
    by_cases hb : 64 ≤ b.length
    · rw [run_step s b hb, ih _ _ (by rw [List.length_drop]; omega), List.length_drop]; omega
    · rw [run_end s b hb]; show b.length = _; omega
theorem lens_8 (n : Nat) : lens n 8 = [8 * n / 72057594037927936 % 256, 8 * n / 281474976710656 % 256, 8 * n / 1099511627776 % 256, 8 * n / 4294967296 % 256, 8 * n / 16777216 % 256, 8 * n / 65536 % 256, 8 * n / 256 % 256, 8 * n % 256] := by
  simp [lens, lenb, List.range_succ]
theorem padl_eq (r n : Nat) (h : r % 64 = n % 64) : padl r n = pad n := by
  unfold padl pad pad1
  rw [lens_8, h]
/-- what Sum of a Hash answers that has taken xs -/
theorem sum_eq (xs : List Nat) : (run (run IV xs).1 ((run IV xs).2 ++ padl (run IV xs).2.length xs.length)).1.bytes = sum xs := by
  unfold sum
  rw [run_append xs.length IV xs _ (Nat.le_refl _), padl_eq _ _ (by rw [run_len xs.length IV xs (Nat.le_refl _)]; omega)]
set_option maxHeartbeats 4000000 in
set_option maxRecDepth 100000 in
theorem sum_calls (A0 : Option Addr) (k0 : Nat) (xs : List Nat) (w : World) (hr : Kd.C (Kd.int .u8) w A0 (cN xs).length (cN xs)) (hx : Bs xs) (hl : xs.length ≤ 100000000000) :
    Calls Try.prog 10 #[.slice A0 (cN xs).length k0] w fun e w' => e = .returned (.agg (ints .u8 (cN (sum xs))).toArray) ∧ Below w.heap.size w w' := by
  obtain ⟨m, hm⟩ : ∃ m, m = (cN xs).length := ⟨_, rfl⟩
  have HR := Aside0.mk hr
  have HX := Aside0.mk (And.intro hx (And.intro hl hm))
  rw [← hm]
  clear hr hx hl hm
  go_enter Try.func10, Try.ntmps10
  go_upto_region 1 with (fail)
  refine wp_at (w2 := (w.alloc (.cells (ints .u8 (cN z32)).toArray 26))) rfl ?_
  have hA0 : Arr .u8 26 (w.alloc (.cells (ints .u8 (cN z32)).toArray 26)) w.heap.size (cN z32) := Arr.new w .u8 _ _
  have hB0 : Below w.heap.size w (w.alloc (.cells (ints .u8 (cN z32)).toArray 26)) := below_alloc (Below.refl _ _) _
  have hs0 : (w.alloc (.cells (ints .u8 (cN z32)).toArray 26)).heap.size = w.heap.size + 1 := by simp
  generalize w.alloc (.cells (ints .u8 (cN z32)).toArray 26) = w1 at *
  have HA0 := Aside0.mk hA0
  have HB0 := Aside0.mk hB0
  have HS0 := Aside0.mk hs0
  clear hA0 hB0 hs0
  go_upto_region 2 with (first | ((with_reducible refine gate_callee (f := 24) rfl ?_); refine goesL_ (some 5) rfl rfl Try.func24 (by kernel_rfl) rfl #[] rfl (by (try simp only [List.map_toArray, List.map_cons, List.map_nil]); first | done | rfl) ?_; (with_reducible refine (new_calls w1).mono ?_); rintro e w2 ⟨g2, rfl, hg2, hH2, hB2⟩; refine ⟨_, rfl, ?_⟩))
  have hr2 := Kd.C_below (Kd.C_below HR.out HB0.out) hB2
  have hf2 : ∀ ad, A0 = some ad → 0 < (cN xs).length → ad.block ≠ g2 := by
    intro ad e hp he
    obtain ⟨ad', e', hc⟩ := (reads_of .u8 HR.out).2.2 hp
    rw [e] at e'
    injection e' with e'
    subst e'
    have h1 := hc 0 hp
    have h2 := World.block_lt_of_cell? w _ h1
    have h3 : (ad.add 0).block = ad.block := by unfold Addr.add; split <;> rfl
    rw [h3, he] at h2
    have := HS0.out
    omega
  have hWr := write_calls A0 k0 xs w2 g2 0 IV [] _ hH2 hr2 HX.out.1 hf2 (by have := HX.out.2.1; show 0 + _ ≤ _; omega) (by have := HX.out.2.1; omega)
  rw [← HX.out.2.2, List.nil_append, Nat.zero_add] at hWr
  have HW := Aside0.mk hWr
  have H2 := Aside0.mk hH2
  have HG2 := Aside0.mk hg2
  have HB2 := Aside0.mk hB2
  clear hr2 hf2 hH2 hg2 hB2 hWr
  rename_i K0 hK0
  apply wp_region_lit
  refine Go.Great.wpList_readTo rfl (some 6) rfl (.func (.func 25) #[] #[]) rfl ?_
  refine Go.Great.wpList_readTo rfl (some 7) rfl (.pointer (some ⟨g2, 0, none⟩)) rfl ?_
  refine Go.Great.wpList_readTo rfl (some 8) rfl (.slice A0 m k0) rfl ?_
  refine wpList_callR rfl (some 9) rfl 25 #[.pointer (some ⟨g2, 0, none⟩), .slice A0 m k0] (by simp only [Act.put, List.setIfInBounds_toArray, List.set_cons_zero, List.set_cons_succ]; go_simp) _ HW.out ?_
  rintro e w3 ⟨rfl, v3, hH3, hk3, hat3⟩
  refine ⟨_, rfl, ?_⟩
  have hBT : Below (w.heap.size + 1) w1 w3 := by
    have e := HS0.out
    have h1 := HB2.out.size
    refine (HB2.out.mono (by omega)).trans (hk3.below (by have := HG2.out; omega) ?_ (by omega))
    intro k hk
    cases hk
  have HA3 := Aside0.mk (HA0.out.below hBT (by omega))
  have HB3 := Aside0.mk (HB0.out.trans (hBT.mono (by omega)))
  have hsz := (HA0.out.below hBT (by omega)).size
  have hlr := run_len xs.length IV xs (Nat.le_refl _)
  have hSr := hsum_calls w3 g2 xs.length (run IV xs).1 (run IV xs).2 v3 hH3 (by omega) (by have := HX.out.2.1; omega)
  rw [sum_eq] at hSr
  have HS := Aside0.mk hSr
  clear hBT hH3 hk3 hat3 hlr HW hSr
  apply wpList_nil
  refine hK0 _ _ ?_
  clear hK0 K0
  go_upto_region 3 with (fail)
  rename_i K1 hK1
  apply wp_region_lit
  refine Go.Great.wpList_readTo rfl (some 10) rfl (.pointer (some ⟨g2, 0, none⟩)) rfl ?_
  refine wpList_callR rfl (some 11) rfl 26 #[.pointer (some ⟨g2, 0, none⟩)] (by simp only [Act.put, List.setIfInBounds_toArray, List.set_cons_zero, List.set_cons_succ]; go_simp) _ HS.out ?_
  rintro e w4 ⟨rfl, hB4⟩
  refine ⟨_, rfl, ?_⟩
  have hA4 := HA3.out.below hB4 hsz
  have hB5 := HB3.out.trans (hB4.mono (Nat.le_of_lt hsz))
  have hW : (sum xs).length = 32 := rfl
  generalize hSe : sum xs = W at *
  have HSE := Aside0.mk hSe
  clear hSe
  have hl1 : (ints .u8 (cN W)).length = 32 := by rw [ints_length, cN_length, hW]
  refine wpList_store_mid rfl 26 (.tmp 2) (.tmp 11) rfl _ 0 (ints .u8 (cN W)).toArray rfl rfl (hA4.there (by rw [List.size_toArray, hl1]; rfl)) (by rw [List.size_toArray, hl1]; rfl) (all_oneCell_toArray (ints_one _ _)) ?_
  have hA2 := hA4.setCells (ys := cN W) (by rw [cN_length, cN_length, hW]; rfl)
  have hB6 := below_setCells (Nat.le_refl w.heap.size) (ints .u8 (cN W)) 0 w4 hB5
  apply wpList_nil
  refine hK1 _ _ ?_
  rw [List.toList_toArray]
  generalize w4.setCells w.heap.size 0 (ints .u8 (cN W)) = w9 at *
  go_wp2
  refine bodyPost_ret (v := .agg (ints .u8 (cN W)).toArray) ?_ rfl ⟨by rw [HSE.out], hB6⟩
  exact results_cell_row rfl _ _ w.heap.size 26 (ints .u8 (cN W)).toArray (0, 0) _ rfl hA2 rfl rfl (by rw [List.size_toArray, hl1]; rfl)
theorem sum_length (xs : List Nat) : (sum xs).length = 32 := rfl
end Go.Proofs.Ytojlhmmmiebbmaa.PNonceLists
namespace Go.Proofs.Ytojlhmmmiebbmaa.PNonceLists
open Go.RowKit Go.Proofs.YtojlhmmmiebbmaaW.PrintWords Go.Proofs.YtojlhmmmiebbmaaW.PrintLast Go.Proofs.YtojlhmmmiebbmaaW.PrintMore Go.Proofs.Ytojlhmmmiebbmaa.Sha Go.Proofs.Ytojlhmmmiebbmaa.Arr
set_option linter.unusedVariables false
set_option linter.unusedSimpArgs false
/-- block g holds a Hash that has taken xs -/
def Took (w : World) (g : Nat) (xs : List Nat) (v : Value) : Prop := HashAt w g (run IV xs).1 (run IV xs).2 xs.length v
theorem run_nil : run IV [] = (IV, []) := run_end IV [] (by simp)
theorem rest_le (xs : List Nat) : (run IV xs).2.length < 64 := run_rest xs.length IV xs (Nat.le_refl _)
theorem took_new (w : World) : Calls Try.prog 24 #[] w fun e w' => ∃ g, e = .returned (.pointer (some ⟨g, 0, none⟩)) ∧ w.heap.size ≤ g ∧ Took w' g [] (.slice none 0 0) ∧ Below w.heap.size w w' := by
  refine (new_calls w).mono ?_
  rintro e w' ⟨g, rfl, hg, hH, hB⟩
  refine ⟨g, rfl, hg, ?_, hB⟩
  unfold Took
  rw [run_nil]
  exact hH
theorem took_sum (w : World) (g : Nat) (xs : List Nat) (v : Value) (h : Took w g xs v) (hl : xs.length ≤ 1000000000) : Calls Try.prog 26 #[.pointer (some ⟨g, 0, none⟩)] w fun e w' => e = .returned (.agg (ints .u8 (cN (sum xs))).toArray) ∧ Below w.heap.size w w' := by
  have h1 := hsum_calls w g _ _ _ v h (by have := rest_le xs; omega) (by omega)
  rwa [sum_eq] at h1
theorem took_write (A0 : Option Addr) (k0 : Nat) (ys : List Nat) (w : World) (g : Nat) (xs : List Nat) (v : Value) (h : Took w g xs v) (hr : Kd.C (Kd.int .u8) w A0 (cN ys).length (cN ys)) (hx : Bs ys)
    (hf : ∀ ad, A0 = some ad → 0 < (cN ys).length → ad.block ≠ g) (hl : xs.length + ys.length ≤ 1000000000) :
    Calls Try.prog 25 #[.pointer (some ⟨g, 0, none⟩), .slice A0 (cN ys).length k0] w fun e w' => e = .returned (.tuple #[]) ∧ ∃ v', Took w' g (xs ++ ys) v' ∧ KB w w' g v.ownBlock ∧ (v'.ownBlock = v.ownBlock ∨ ∃ b, v'.ownBlock = some b ∧ w.heap.size ≤ b) := by
  have h1 := write_calls A0 k0 ys w g _ _ _ v h hr hx hf (by have := rest_le xs; omega) (by omega)
  rw [← run_append xs.length IV xs ys (Nat.le_refl _), ← List.length_append] at h1
  exact h1
section
variable {w w1 : World} {g g' : Nat} {xs ys : List Nat} {v v' : Value} {row : Option Nat}
theorem Took.size (h : Took w g xs v) : g < w.heap.size := HashAt.size h
theorem Took.below (h : Took w g xs v) (hb : Below w.heap.size w w1) : Took w1 g xs v := HashAt.below h hb
theorem Took.lt (h : Took w g xs v) (k : Nat) (hk : v.ownBlock = some k) : k < w.heap.size := own_lt (HashAt.own h) k hk
/-- another Hash was written -/
theorem Took.kept (h : Took w g xs v) (h' : Took w g' ys v') (k : KB w w1 g' v'.ownBlock) (hg : g ≠ g') (hr : ∀ j, v.ownBlock = some j → some j ≠ v'.ownBlock) : Took w1 g xs v := by
  refine HashAt.kept h (k.keep.2 g h.size hg ?_) (fun j hj => k.keep.2 j (h.lt j hj) ?_ (hr j hj))
  · exact own_ne (HashAt.own h') (HashAt.row h) (by decide)
  · intro e
    subst e
    exact own_ne (HashAt.own h) (HashAt.row h') (by decide) hj.symm
/-- a row that was there before the Hash is not in its block -/
theorem old_row {A0 : Option Addr} (hr : Kd.C (Kd.int .u8) w A0 (cN ys).length (cN ys)) (hg : w.heap.size ≤ g) : ∀ ad, A0 = some ad → 0 < (cN ys).length → ad.block ≠ g := by
  intro ad e hp he
  obtain ⟨ad', e', hc⟩ := (reads_of .u8 hr).2.2 hp
  rw [e] at e'
  injection e' with e'
  subst e'
  have h1 := hc 0 hp
  have h2 := World.block_lt_of_cell? w _ h1
  have h3 : (ad.add 0).block = ad.block := by unfold Addr.add; split <;> rfl
  rw [h3, he] at h2
  omega
end
theorem own_Cq {w : World} {base m k : Nat} {e : TypeId} {A : Option Addr} {b : List Nat} (h : w.ownsRow base e 1 (.slice A m k) (cN b).length (nums .u8 (cN b))) : Kd.C (Kd.int .u8) w A (cN b).length (cN b) := by
  obtain ⟨A9, c9, e9, h9⟩ := own_reads_of (enc := Value.int .u8) (d := (0 : Int)) h
  injection e9 with e1 e2 e3
  rw [e1]
  exact Kd.C_of_reads (h1 := fun _ => rfl) h9
theorem sum_len32 (b : List Nat) : (cN (sum b)).length = 32 := by rw [cN_length]; rfl
theorem Took.drew {w : World} {g : Nat} {xs : List Nat} {v : Value} (h : Took w g xs v) : Took w.drew g xs v := HashAt.kept h rfl (fun _ _ => rfl)
end Go.Proofs.Ytojlhmmmiebbmaa.PNonceLists
namespace Go.Proofs.Ytojlhmmmiebbmaa.PNonceLists
open Go.RowKit Go.Proofs.YtojlhmmmiebbmaaW.PrintWords Go.Proofs.YtojlhmmmiebbmaaW.PrintLast Go.Proofs.YtojlhmmmiebbmaaW.PrintMore Go.Proofs.Ytojlhmmmiebbmaa.Sha Go.Proofs.Ytojlhmmmiebbmaa.Arr
attribute [local go_sem] max2_int min2_int max_two min_two max_three min_three max_four min_four
attribute [local go_sem high] u8_w
set_option linter.unusedVariables false
set_option linter.unusedSimpArgs false
/-- a key as it is taken: its sum if it is long -/
def kk0 (xs : List Nat) : List Nat := if 64 < xs.length then sum xs else xs
/-- a key's block -/
def kb (xs : List Nat) : List Nat := kk0 xs ++ List.replicate (64 - (kk0 xs).length) 0
theorem kk0_le (xs : List Nat) : (kk0 xs).length ≤ 64 := by
  unfold kk0
  split
  · rw [sum_length]; decide
  · omega
theorem kb_length (xs : List Nat) : (kb xs).length = 64 := by
  unfold kb
  rw [List.length_append, List.length_replicate]
  have := kk0_le xs
  omega
theorem bytes4_lt (x : Nat) : ∀ y ∈ bytes4 x, y < 256 := by
  intro y hy
  simp only [bytes4, List.mem_cons, List.not_mem_nil, or_false] at hy
  rcases hy with rfl | rfl | rfl | rfl <;> exact Nat.mod_lt _ (by decide)
theorem bs_of_mem {l : List Nat} (h : ∀ y ∈ l, y < 256) : Bs l := by
  intro i
  rw [List.getD_eq_getElem?_getD]
  cases e : l[i]? with
  | none => exact Nat.zero_lt_succ _
  | some y => exact h y (List.mem_of_getElem? e)
theorem sum_bs (xs : List Nat) : Bs (sum xs) := by
  apply bs_of_mem
  intro y hy
  unfold sum H8.bytes at hy
  simp only [List.mem_append] at hy
  rcases hy with ((((((h | h) | h) | h) | h) | h) | h) | h <;> exact bytes4_lt _ y h
theorem kb_bs (xs : List Nat) (h : Bs xs) : Bs (kb xs) := by
  refine Bs.append ?_ ?_
  · unfold kk0
    split
    · exact sum_bs xs
    · exact h
  · apply bs_of_mem
    intro y hy
    rw [(List.mem_replicate.1 hy).2]
    decide
/-- the first i bytes exclusive-ored -/
def mixx (b : List Nat) (x i : Nat) : List Nat := (b.take i).map (· ^^^ x) ++ b.drop i
def kx (xs : List Nat) (x : Nat) : List Nat := (kb xs).map (· ^^^ x)
theorem mixx_zero (b : List Nat) (x : Nat) : mixx b x 0 = b := rfl
theorem mixx_all (b : List Nat) (x : Nat) (h : b.length = 64) : mixx b x 64 = b.map (· ^^^ x) := by
  unfold mixx
  rw [List.take_of_length_le (by omega), List.drop_of_length_le (by omega), List.append_nil]
theorem mixx_get (b : List Nat) (x i : Nat) (h : b.length = 64) (hi : i < 64) : (mixx b x i).getD i 0 = b.getD i 0 := by
  have hl : ((b.take i).map (· ^^^ x)).length = i := by rw [List.length_map, List.length_take]; omega
  unfold mixx
  rw [List.getD_eq_getElem?_getD, List.getD_eq_getElem?_getD, List.getElem?_append_right (by omega), hl, Nat.sub_self, List.getElem?_drop, Nat.add_zero]
theorem mixx_set (b : List Nat) (x i : Nat) (h : b.length = 64) (hi : i < 64) : (mixx b x i).set i (b.getD i 0 ^^^ x) = mixx b x (i + 1) := by
  have hl : ((b.take i).map (· ^^^ x)).length = i := by rw [List.length_map, List.length_take]; omega
  have hib : i < b.length := by omega
  unfold mixx
  rw [List.set_append_right _ _ (by omega), hl, Nat.sub_self, List.drop_eq_getElem_cons hib, List.set_cons_zero, List.take_add_one, List.getElem?_eq_getElem hib, List.map_append, List.append_assoc, List.getD_eq_getElem?_getD, List.getElem?_eq_getElem hib]
  rfl
theorem meas64' {t : Nat} (h : t < 64) : 64 - (intOf (.int .i64 ((t : Int) + 1))).toNat < 64 - (intOf (.int .i64 (t : Int))).toNat := by
  show 64 - ((t : Int) + 1).toNat < 64 - (t : Int).toNat
  omega
def z64b : List Nat := List.replicate 64 0
theorem copied (xs : List Nat) : (kk0 xs).take (min (kk0 xs).length 64) ++ z64b.drop (min (kk0 xs).length 64) = kb xs := by
  have := kk0_le xs
  unfold kb z64b
  rw [show min (kk0 xs).length 64 = (kk0 xs).length by omega, List.take_length, List.drop_replicate]
theorem arr_rd {k : IntKind} {T : TypeId} {w : World} {g : Nat} {xs : List Int} (h : Arr k T w g xs) (hl : xs.length ≤ maxLen) : ReadsInt w k (some ⟨g, 0, none⟩) xs.length xs :=
  ⟨rfl, hl, fun _ => ⟨_, rfl, fun j hj => by
    have h1 := h.cell j hj
    rw [show (⟨g, 0, none⟩ : Addr).add j = ⟨g, j, none⟩ by rw [Addr.add_mid, Nat.zero_add], h1]
    unfold rd
    rw [Int.toNat_natCast]⟩⟩
set_option maxHeartbeats 8000000 in
set_option maxRecDepth 100000 in
theorem with_calls (A0 : Option Addr) (k0 : Nat) (xs : List Nat) (x : Nat) (w : World) (hr0 : Kd.C (Kd.int .u8) w A0 (cN xs).length (cN xs)) (hx : Bs xs) (hxb : x < 256) (hl : xs.length ≤ 1000000000) :
    Calls Try.prog 57 #[.slice A0 (cN xs).length k0, .int .u8 (x : Int)] w fun e w' => ∃ g c, e = .returned (.slice (some ⟨g, 0, none⟩) 64 c) ∧ w'.ownsRow w.heap.size 5 1 (.slice (some ⟨g, 0, none⟩) 64 c) 64 (nums .u8 (cN (kx xs x))) ∧ Below w.heap.size w w' := by
  obtain ⟨m0, hm0⟩ : ∃ m, m = (cN xs).length := ⟨_, rfl⟩
  have HR0 := Aside0.mk hr0
  have HX := Aside0.mk hx
  have HXB := Aside0.mk hxb
  have HL := Aside0.mk hl
  have HM : Aside0 (m0 = xs.length ∧ m0 = (cN xs).length) := Aside0.mk ⟨by rw [hm0, cN_length], hm0⟩
  have hmk : ∀ W : World, (Instr.makeSlice 40 (.int .i64 64) (.int .i64 64)).run Try.prog W = .ok (.slice (some ⟨W.heap.size, 0, none⟩) 64 64) (W.alloc (.cells (madeCells #[.int .u8 0] 64) 5)) := print_make 40 5 .u8 1 rfl rfl (by decide) 64 (by decide)
  rw [← hm0]
  clear hr0 hx hxb hl
  by_cases hbig : m0 ≤ 64
  · have p0 : (m0 : Int) ≤ 64 := by omega
    have HK : Aside0 (kk0 xs = xs) := Aside0.mk (by unfold kk0; rw [if_neg (by have := HM.out.1; omega)])
    have HO2 : Aside0 ((w.alloc (.cells (madeCells #[.int .u8 0] 64) 5)).ownsRow w.heap.size 5 1 (.slice (some ⟨w.heap.size, 0, none⟩) 64 64) (cN z64b).length (encs (Value.int .u8) (cN z64b))) := Aside0.mk (own_made' w w.heap.size 5 .u8 64 (Nat.le_refl _) (by decide))
    have HP2 : Aside0 (Below w.heap.size w (w.alloc (.cells (madeCells #[.int .u8 0] 64) 5))) := Aside0.mk (below_alloc (Below.refl _ _) _)
    have HC2 : Aside0 (Kd.C (Kd.int .u8) (w.alloc (.cells (madeCells #[.int .u8 0] 64) 5)) A0 m0 (cN xs)) := Aside0.mk (by rw [HM.out.2]; exact Kd.C_below HR0.out HP2.out)
    clear hbig hm0
    go_enter Try.func57, Try.ntmps57
    go_wp2_with (first
      | ((with_reducible refine gate_dst (N := 17) rfl ?_); refine Kd.R_copy (0 : Int) (w0 := w) w.heap.size rfl (.tmp 15) (.tmp 16) 40 40 5 rfl rfl rfl (.slice (some ⟨w.heap.size, 0, none⟩) 64 64) (cN z64b) (cN xs) A0 m0 k0 (fun _ => True) rfl rfl (Kd.R_of_own HO2.out (fun _ _ => trivial)) HC2.out HP2.out HP2.out.size ?_; intro w4 ho hb hg; have HO3 := Aside0.mk (Kd.own_of_R ho); have HP4 := Aside0.mk hb; clear ho hb hg))
    have HO4 : Aside0 (w4.ownsRow w.heap.size 5 1 (.slice (some ⟨w.heap.size, 0, none⟩) 64 64) 64 (nums .u8 (cN (kb xs)))) := Aside0.mk (by
      have h := HO3.out
      have e := copied xs
      rw [HK.out] at e
      have e2 : (cN xs).take (min m0 (cN z64b).length) ++ (cN z64b).drop (min m0 (cN z64b).length) = cN (kb xs) := by
        rw [← e, cN_append, cN_take, cN_drop, HM.out.1]
        rfl
      rw [e2, cN_length, kb_length] at h
      exact h)
    go_loopw [20] (fun v wr => ∃ i : Nat, i ≤ 64 ∧ v = .int .i64 (i : Int) ∧ Aside0 (wr.ownsRow w.heap.size 5 1 (.slice (some ⟨w.heap.size, 0, none⟩) 64 64) 64 (nums .u8 (cN (mixx (kb xs) x i)))) ∧ Aside0 (Below w.heap.size w wr))
      (fun v _ => 64 - (intOf v).toNat)
    case atStart => exact ⟨0, by omega, rfl, Aside0.mk (by rw [mixx_zero]; exact HO4.out), HP4⟩
    case round =>
      clear HO4 HP4
      obtain ⟨i, hi, rfl, HO, HP⟩ := hrel
      by_cases hlt : i < 64
      · have t1 : (i : Int) < 64 := by omega
        obtain ⟨hc, hf⟩ := own_at HO.out (i : Int) (by omega) t1
        have hst := fun z => (own_store HO.out (i : Int) z).1
        rw [Int.toNat_natCast, rd_cN, mixx_get (kb xs) x i (kb_length xs) hlt] at hc
        rw [Int.toNat_natCast] at hf
        simp only [Int.toNat_natCast] at hst
        have hge := own_base HO.out (w.heap.size) rfl
        have hxr := u8_xor_nat ((kb xs).getD i 0) x (kb_bs xs HX.out i) HXB.out
        have hset := mixx_set (kb xs) x i (kb_length xs) hlt
        obtain ⟨y, hY⟩ : ∃ y, (kb xs).getD i 0 = y := ⟨_, rfl⟩
        rw [hY] at hc hxr hset
        clear hY
        obtain ⟨z, hz⟩ : ∃ z, z = y ^^^ x := ⟨_, rfl⟩
        rw [← hz] at hxr hset
        have HST := Aside0.mk hst
        have HSET := Aside0.mk hset
        have HGE := Aside0.mk hge
        have HLT := Aside0.mk hlt
        clear hz hst hset hge hlt hi
        go_wp2
        have ho := HST.out (z : Int)
        rw [cN_set, HSET.out] at ho
        have hp := HP.out.setCell (p := ⟨w.heap.size, i, none⟩) HGE.out (.int .u8 (z : Int))
        have hlt := HLT.out
        exact ⟨⟨i + 1, hlt, by rw [Int.natCast_add]; rfl, Aside0.mk ho, Aside0.mk hp⟩, meas64' hlt⟩
      · have hi' : i = 64 := by omega
        subst hi'
        rw [show ((64 : Nat) : Int) = 64 from rfl]
        clear hlt hi
        go_wp2
        go_ret
        exact ⟨w.heap.size, 64, rfl, by have h := HO.out; rw [mixx_all (kb xs) x (kb_length xs)] at h; exact h, HP.out⟩
  · have p0 : ¬ (m0 : Int) ≤ 64 := by omega
    have HK : Aside0 (kk0 xs = sum xs) := Aside0.mk (by unfold kk0; rw [if_pos (by have := HM.out.1; omega)])
    have hsu := sum_calls A0 k0 xs w HR0.out HX.out (by have := HL.out; omega)
    rw [← HM.out.2] at hsu
    have HSU := Aside0.mk hsu
    clear hbig hm0 hsu
    go_enter Try.func57, Try.ntmps57
    go_upto_region 2 with (fail)
    rename_i K0 hK0
    apply wp_region_lit
    refine Go.Great.wpList_readTo rfl (some 11) rfl (.slice A0 m0 k0) rfl ?_
    refine wpList_callR rfl (some 12) rfl 10 #[.slice A0 m0 k0] (by simp only [Act.put, List.setIfInBounds_toArray, List.set_cons_zero, List.set_cons_succ]; go_simp) _ HSU.out ?_
    rintro e w6 ⟨rfl, hB6⟩
    refine ⟨_, rfl, ?_⟩
    obtain ⟨D, hDg⟩ : ∃ D, sum xs = D := ⟨_, rfl⟩
    have hDl0 : D.length = 32 := by rw [← hDg]; rfl
    rw [hDg]
    rw [hDg] at HK
    have hDl : (cN D).length = 32 := by rw [cN_length, hDl0]
    have hl1 : (ints .u8 (cN D)).length = 32 := by rw [ints_length, hDl]
    refine Go.Great.wpList_allocTo rfl (some 5) rfl _ (.cells (ints .u8 (cN z32)).toArray 26) rfl ?_
    have hA := Arr.new w6 .u8 26 (cN z32)
    have hP7 : Below w6.heap.size w6 (w6.alloc (.cells (ints .u8 (cN z32)).toArray 26)) := below_alloc (Below.refl _ _) _
    generalize w6.alloc (.cells (ints .u8 (cN z32)).toArray 26) = w7 at *
    refine wpList_store_mid rfl 26 (.tmp 5) (.tmp 12) rfl w6.heap.size 0 (ints .u8 (cN D)).toArray rfl rfl (hA.there (by rw [List.size_toArray, hl1]; rfl)) (by rw [List.size_toArray, hl1]; rfl) (all_oneCell_toArray (ints_one _ _)) ?_
    have hA2 := hA.setCells (ys := cN D) (by rw [cN_length, hDl]; rfl)
    have hP8 := below_setCells (Nat.le_refl w6.heap.size) (ints .u8 (cN D)) 0 w7 hP7
    apply wpList_nil
    refine hK0 _ _ ?_
    rw [List.toList_toArray]
    clear hA hP7 hK0 K0
    generalize w7.setCells w6.heap.size 0 (ints .u8 (cN D)) = w8 at *
    have hB8 : Below w.heap.size w w8 := hB6.trans (hP8.mono hB6.size)
    have hs8 : w.heap.size ≤ w8.heap.size := hB8.size
    have HB8 := Aside0.mk hB8
    have HA8 := Aside0.mk hA2
    have HDL := Aside0.mk (And.intro hDl0 hDl)
    have HS8 := Aside0.mk hs8
    have HO2 : Aside0 ((w8.alloc (.cells (madeCells #[.int .u8 0] 64) 5)).ownsRow w.heap.size 5 1 (.slice (some ⟨w8.heap.size, 0, none⟩) 64 64) (cN z64b).length (encs (Value.int .u8) (cN z64b))) := Aside0.mk (own_made' w8 w.heap.size 5 .u8 64 hs8 (by decide))
    have HP2 : Aside0 (Below w.heap.size w (w8.alloc (.cells (madeCells #[.int .u8 0] 64) 5))) := Aside0.mk (below_alloc hB8 _)
    have HC2 : Aside0 (Kd.C (Kd.int .u8) (w8.alloc (.cells (madeCells #[.int .u8 0] 64) 5)) (some ⟨w6.heap.size, 0, none⟩) 32 (cN D)) := Aside0.mk (by
      have hb : Below w8.heap.size w8 (w8.alloc (.cells (madeCells #[.int .u8 0] 64) 5)) := below_alloc (Below.refl _ _) _
      have h := Kd.C_of_reads (enc := Value.int .u8) (d := (0 : Int)) (h1 := fun _ => rfl) (arr_rd (hA2.below hb hA2.size) (by rw [hDl]; decide))
      rw [hDl] at h
      exact h)
    clear hB6 hDg hDl0 hDl hl1 hA2 hP8 hB8 hs8 HSU
    generalize w6.heap.size = gd at *
    go_wp2_with (first
      | ((with_reducible refine gate_dst (N := 17) rfl ?_); refine Kd.R_copy (0 : Int) (w0 := w) w.heap.size rfl (.tmp 15) (.tmp 16) 40 40 5 rfl rfl rfl (.slice (some ⟨w8.heap.size, 0, none⟩) 64 64) (cN z64b) (cN D) (some ⟨gd, 0, none⟩) 32 32 (fun _ => True) rfl rfl (Kd.R_of_own HO2.out (fun _ _ => trivial)) HC2.out HP2.out HP2.out.size ?_; intro w4 ho hb hg; have HO3 := Aside0.mk (Kd.own_of_R ho); have HP4 := Aside0.mk hb; clear ho hb hg))
    have HO4 : Aside0 (w4.ownsRow w.heap.size 5 1 (.slice (some ⟨w8.heap.size, 0, none⟩) 64 64) 64 (nums .u8 (cN (kb xs)))) := Aside0.mk (by
      have h := HO3.out
      have e := copied xs
      rw [HK.out, HDL.out.1] at e
      have e2 : (cN D).take (min 32 (cN z64b).length) ++ (cN z64b).drop (min 32 (cN z64b).length) = cN (kb xs) := by
        rw [← e, cN_append, cN_take, cN_drop]
        rfl
      rw [e2, cN_length, kb_length] at h
      exact h)
    go_loopw [20] (fun v wr => ∃ i : Nat, i ≤ 64 ∧ v = .int .i64 (i : Int) ∧ Aside0 (wr.ownsRow w.heap.size 5 1 (.slice (some ⟨w8.heap.size, 0, none⟩) 64 64) 64 (nums .u8 (cN (mixx (kb xs) x i)))) ∧ Aside0 (Below w.heap.size w wr))
      (fun v _ => 64 - (intOf v).toNat)
    case atStart => exact ⟨0, by omega, rfl, Aside0.mk (by rw [mixx_zero]; exact HO4.out), HP4⟩
    case round =>
      clear HO4 HP4
      obtain ⟨i, hi, rfl, HO, HP⟩ := hrel
      by_cases hlt : i < 64
      · have t1 : (i : Int) < 64 := by omega
        obtain ⟨hc, hf⟩ := own_at HO.out (i : Int) (by omega) t1
        have hst := fun z => (own_store HO.out (i : Int) z).1
        rw [Int.toNat_natCast, rd_cN, mixx_get (kb xs) x i (kb_length xs) hlt] at hc
        rw [Int.toNat_natCast] at hf
        simp only [Int.toNat_natCast] at hst
        have hge := own_base HO.out (w8.heap.size) rfl
        have hxr := u8_xor_nat ((kb xs).getD i 0) x (kb_bs xs HX.out i) HXB.out
        have hset := mixx_set (kb xs) x i (kb_length xs) hlt
        obtain ⟨y, hY⟩ : ∃ y, (kb xs).getD i 0 = y := ⟨_, rfl⟩
        rw [hY] at hc hxr hset
        clear hY
        obtain ⟨z, hz⟩ : ∃ z, z = y ^^^ x := ⟨_, rfl⟩
        rw [← hz] at hxr hset
        have HST := Aside0.mk hst
        have HSET := Aside0.mk hset
        have HGE := Aside0.mk hge
        have HLT := Aside0.mk hlt
        clear hz hst hset hge hlt hi
        go_wp2
        have ho := HST.out (z : Int)
        rw [cN_set, HSET.out] at ho
        have hp := HP.out.setCell (p := ⟨w8.heap.size, i, none⟩) HGE.out (.int .u8 (z : Int))
        have hlt := HLT.out
        exact ⟨⟨i + 1, hlt, by rw [Int.natCast_add]; rfl, Aside0.mk ho, Aside0.mk hp⟩, meas64' hlt⟩
      · have hi' : i = 64 := by omega
        subst hi'
        rw [show ((64 : Nat) : Int) = 64 from rfl]
        clear hlt hi
        go_wp2
        go_ret
        exact ⟨w8.heap.size, 64, rfl, by have h := HO.out; rw [mixx_all (kb xs) x (kb_length xs)] at h; exact h, HP.out⟩
end Go.Proofs.Ytojlhmmmiebbmaa.PNonceLists
namespace Go.Proofs.Ytojlhmmmiebbmaa.PNonceLists
open Go.RowKit Go.Proofs.YtojlhmmmiebbmaaW.PrintWords Go.Proofs.YtojlhmmmiebbmaaW.PrintLast Go.Proofs.YtojlhmmmiebbmaaW.PrintMore Go.Proofs.Ytojlhmmmiebbmaa.Sha Go.Proofs.Ytojlhmmmiebbmaa.Arr
attribute [local go_sem] max2_int min2_int max_two min_two max_three min_three max_four min_four
attribute [local go_sem high] u8_w
set_option linter.unusedVariables false
set_option linter.unusedSimpArgs false
/-- a text's code, with a key -/
def macOf (key text : List Nat) : List Nat := sum (kx key 92 ++ sum (kx key 54 ++ text))
theorem kx_length (xs : List Nat) (x : Nat) : (kx xs x).length = 64 := by unfold kx; rw [List.length_map, kb_length]
theorem kx_bs (xs : List Nat) (x : Nat) (h : Bs xs) (hx : x < 256) : Bs (kx xs x) := by
  apply bs_of_mem
  intro y hy
  obtain ⟨z, hz, rfl⟩ := List.mem_map.1 hy
  have h1 : z < 256 := by
    obtain ⟨i, hi, e⟩ := List.getElem_of_mem hz
    have h2 := kb_bs xs h i
    rw [List.getD_eq_getElem?_getD, List.getElem?_eq_getElem hi] at h2
    rw [← e]
    exact h2
  exact Nat.xor_lt_two_pow (n := 8) h1 hx
/-- the first i parts of a text, one behind the other -/
def pre (l : List (List Nat)) (i : Nat) : List Nat := (l.take i).flatten
theorem pre_succ (l : List (List Nat)) (i : Nat) (h : i < l.length) : pre l i ++ l.getD i [] = pre l (i + 1) := by
  unfold pre
  rw [List.take_add_one, List.flatten_append, List.getD_eq_getElem?_getD, List.getElem?_eq_getElem h]
  simp
theorem pre_all (l : List (List Nat)) : pre l l.length = l.flatten := by unfold pre; rw [List.take_length]
theorem pre_le (l : List (List Nat)) (M : Nat) (h : ∀ x ∈ l, x.length ≤ M) : ∀ i, i ≤ l.length → (pre l i).length ≤ M * i := by
  intro i
  induction i with
  | zero => intro _; exact Nat.le_refl _
  | succ i ih =>
    intro hi
    rw [← pre_succ l i (by omega), List.length_append]
    have h1 := ih (by omega)
    have h2 : (l.getD i []).length ≤ M := by
      rw [List.getD_eq_getElem?_getD, List.getElem?_eq_getElem (by omega)]
      exact h _ (List.getElem_mem _)
    rw [Nat.mul_succ]
    omega
theorem rows_cell {w : World} {A : Option Addr} {l : List (List Nat)} (h : Kd.C (Kd.slice 5 (Kd.int .u8)) w A (l.map cN).length (l.map cN)) (i : Nat) (hi : i < l.length) :
    ∃ ad A1 c1, A = some ad ∧ w.cell? (ad.add i) = some (.slice A1 (cN (l.getD i [])).length c1) ∧ (cN (l.getD i [])).length ≤ c1 ∧ Kd.C (Kd.int .u8) w A1 (cN (l.getD i [])).length (cN (l.getD i [])) := by
  obtain ⟨ad, c, e, _, hK, hc⟩ := Kd.C_get h ([] : List Int) (i : Int) (by omega) (by rw [List.length_map]; omega)
  have e2 : (l.map cN).getD ((i : Int)).toNat [] = cN (l.getD i []) := by
    rw [Int.toNat_natCast, List.getD_eq_getElem?_getD, List.getD_eq_getElem?_getD, List.getElem?_map]
    cases l[i]? <;> rfl
  rw [e2] at hK
  obtain ⟨A1, c1, rfl, hle, hC⟩ := hK
  have h0 := hc 0 _ rfl
  rw [show (Kd.slice 5 (Kd.int IntKind.u8)).sz = 1 from rfl, Int.toNat_natCast, Nat.mul_one, Nat.add_zero] at h0
  exact ⟨ad, A1, c1, e, h0, hle, hC⟩
theorem own_C64 {w : World} {base m k : Nat} {e : TypeId} {A : Option Addr} {b : List Nat} (hb : (cN b).length = 64) (h : w.ownsRow base e 1 (.slice A m k) 64 (nums .u8 (cN b))) : Kd.C (Kd.int .u8) w A (cN b).length (cN b) := own_Cq (by rw [hb]; exact h)
theorem own64 {w : World} {base m k : Nat} {e : TypeId} {A : Option Addr} {b : List Nat} (hb : (cN b).length = 64) (h : w.ownsRow base e 1 (.slice A m k) 64 (nums .u8 (cN b))) : w.ownsRow base e 1 (.slice A m k) (cN b).length (encs (Value.int .u8) (cN b)) := by rw [hb]; exact h
theorem arr_C32 {T : TypeId} {w : World} {g : Nat} {D : List Nat} (hl : (cN D).length = 32) (h : Arr .u8 T w g (cN D)) : Kd.C (Kd.int .u8) w (some ⟨g, 0, none⟩) 32 (cN D) := by
  have h := Kd.C_of_reads (enc := Value.int .u8) (d := (0 : Int)) (h1 := fun _ => rfl) (arr_rd h (by rw [hl]; decide))
  rw [hl] at h
  exact h
theorem own_app {w : World} {base m k : Nat} {e : TypeId} {A : Option Addr} {a b : List Nat} (h : w.ownsRow base e 1 (.slice A m k) (cN a ++ cN b).length (encs (Value.int .u8) (cN a ++ cN b))) : Kd.C (Kd.int .u8) w A (cN (a ++ b)).length (cN (a ++ b)) := own_Cq (by rw [cN_append]; exact h)
theorem inc30 {t : Nat} (h : t < 30) : wrap64 ((t : Int) + 1) = (t : Int) + 1 := by unfold wrap64; omega
theorem skip_store {P : Program} {ops : Array Oper} {oi : Oper} {a : Act} {w : World} {K : Act → World → Prop} {Q : Exit → Act → World → Prop} (hw : Region.wanted oi (yielded ops a.tmps) = true) (hN : oi.dst = none) (ty : TypeId) (x y : Operand) (ho : oi.op = .store ty x y)
    (b o : Nat) (cells : Array Value) (hx : a.eval x = .pointer (some ⟨b, o, none⟩)) (hy : a.eval y = .agg cells)
    (ht : w.there b o cells.size) (hi : (P.info? ty).map (·.size) = some cells.size) (h1 : cells.all (·.oneCell') = true)
    (h : K a (w.setCells b o cells.toList)) : if Region.wanted oi (yielded ops a.tmps) = true then Oper.wp P oi a w K Q else K (a.put none undef) w := by
  rw [if_pos hw]
  refine wp_store_mid ty x y ho b o cells hx hy ht hi h1 ?_
  rw [hN]
  exact h
set_option maxHeartbeats 8000000 in
set_option maxRecDepth 100000 in
theorem of_calls (A0 : Option Addr) (k0 : Nat) (key : List Nat) (A1 : Option Addr) (k1 : Nat) (l : List (List Nat)) (w : World) (hr0 : Kd.C (Kd.int .u8) w A0 (cN key).length (cN key)) (hr1 : Kd.C (Kd.slice 5 (Kd.int .u8)) w A1 (l.map cN).length (l.map cN))
    (hb0 : Bs key) (hb1 : ∀ x ∈ l, Bs x) (hl0 : key.length ≤ 1000000) (hl1 : l.length ≤ 30) (hl2 : ∀ x ∈ l, x.length ≤ 1000000) :
    Calls Try.prog 48 #[.slice A0 (cN key).length k0, .slice A1 (l.map cN).length k1] w fun e w' => e = .returned (.agg (ints .u8 (cN (macOf key l.flatten))).toArray) ∧ Below w.heap.size w w' := by
  obtain ⟨m0, hm0⟩ : ∃ m, m = (cN key).length := ⟨_, rfl⟩
  obtain ⟨m1, hm1⟩ : ∃ m, m = (l.map cN).length := ⟨_, rfl⟩
  have HR0 := Aside0.mk hr0
  have HR1 := Aside0.mk hr1
  have HB := Aside0.mk (And.intro hb0 hb1)
  have HL := Aside0.mk (And.intro hl0 (And.intro hl1 hl2))
  have HM := Aside0.mk (And.intro hm0 hm1)
  have HM1 : Aside0 (m1 = l.length) := Aside0.mk (by rw [hm1, List.length_map])
  rw [← hm0, ← hm1]
  clear hr0 hr1 hb0 hb1 hl0 hl1 hl2 hm0 hm1
  go_enter Try.func48, Try.ntmps48
  go_upto_region 1 with (fail)
  refine wp_at (w2 := (w.alloc (.cells (ints .u8 (cN z32)).toArray 26))) rfl ?_
  have HA0 : Aside0 (Arr .u8 26 (w.alloc (.cells (ints .u8 (cN z32)).toArray 26)) w.heap.size (cN z32)) := Aside0.mk (Arr.new w .u8 _ _)
  have HB0 : Aside0 (Below w.heap.size w (w.alloc (.cells (ints .u8 (cN z32)).toArray 26))) := Aside0.mk (below_alloc (Below.refl _ _) _)
  have HS0 : Aside0 ((w.alloc (.cells (ints .u8 (cN z32)).toArray 26)).heap.size = w.heap.size + 1) := Aside0.mk (by simp)
  generalize w.alloc (.cells (ints .u8 (cN z32)).toArray 26) = w1 at *
  go_wp2_with fail
  refine (took_new w1).mono ?_
  rintro e w2 ⟨h, rfl, hh, hT2, hB2⟩
  have HH := Aside0.mk hh
  have HT2 := Aside0.mk hT2
  have HB2 := Aside0.mk hB2
  have HK0 : Aside0 (∀ W, Below w1.heap.size w1 W → Kd.C (Kd.int .u8) W A0 (cN key).length (cN key)) := Aside0.mk (fun W hb => Kd.C_below HR0.out (HB0.out.trans (hb.mono HB0.out.size)))
  have hw54 := with_calls A0 k0 key 54 w2 (HK0.out w2 hB2) HB.out.1 (by decide) (by have := HL.out.1; omega)
  rw [← HM.out.1] at hw54
  have HW54 := Aside0.mk hw54
  clear hh hT2 hB2 hw54
  go_wp2_with fail
  refine HW54.out.mono ?_
  rintro e w3 ⟨gb, cb, rfl, hO3, hB3⟩
  have HB3 : Aside0 (Below w1.heap.size w1 w3) := Aside0.mk (HB2.out.trans (hB3.mono HB2.out.size))
  have HT3 := HT2.out.below hB3
  have hln : (cN (kx key 54)).length = 64 := by rw [cN_length, kx_length]
  have hW := took_write (some ⟨gb, 0, none⟩) cb (kx key 54) w3 h [] _ HT3 (own_C64 hln hO3) (kx_bs key 54 HB.out.1 (by decide)) (fun ad e _ => by
    injection e with e
    subst e
    have h1 := own_base hO3 gb rfl
    have h2 := HT2.out.size
    show gb ≠ h
    omega) (by rw [kx_length]; decide)
  rw [List.nil_append, hln] at hW
  have HW := Aside0.mk hW
  clear hO3 hB3 HT3 hln hW HW54
  go_wp2_with fail
  refine HW.out.mono ?_
  rintro e w4 ⟨rfl, v4, hT4, hk4, hat4⟩
  have HB4 : Aside0 (Below w1.heap.size w1 w4) := Aside0.mk (HB3.out.trans (hk4.below HH.out (fun k hk => by cases hk) HB3.out.size))
  have HV4 : Aside0 (∀ k, v4.ownBlock = some k → w1.heap.size ≤ k) := Aside0.mk (by
    intro k hk
    have h1 := HB3.out.size
    rcases hat4 with e | ⟨q, e, hq⟩
    · rw [e] at hk; cases hk
    · rw [e] at hk
      injection hk with hk
      omega)
  have HT4 := Aside0.mk hT4
  clear hT4 hk4 hat4 HW HB3 HB2 HT2
  go_wp2
  go_loopw [16] (fun v wr => ∃ i : Nat, i ≤ m1 ∧ v = .int .i64 (i : Int) ∧ Aside0 (∃ vh, Took wr h (kx key 54 ++ pre l i) vh ∧ ∀ k, vh.ownBlock = some k → w1.heap.size ≤ k) ∧ Aside0 (Below w1.heap.size w1 wr))
    (fun v _ => m1 - (intOf v).toNat)
  case atStart => exact ⟨0, Nat.zero_le _, rfl, Aside0.mk ⟨v4, by show Took w4 h (kx key 54 ++ []) v4; rw [List.append_nil]; exact HT4.out, HV4.out⟩, HB4⟩
  case round =>
    clear HT4 HV4 HB4
    obtain ⟨i, hi, rfl, HTK, HBr⟩ := hrel
    by_cases hx : i < m1
    · have t1 : (i : Int) < (m1 : Int) := by omega
      have HIL : Aside0 (i < l.length) := Aside0.mk (by have := HM1.out; omega)
      have HIM := Aside0.mk hx
      obtain ⟨ad, A5, c5, eA, hc, hle, hC⟩ := rows_cell HR1.out i HIL.out
      cases eA
      have hB1w : Below w.heap.size w wr := HB0.out.trans (HBr.out.mono HB0.out.size)
      have hcr := (hB1w.cell (p := ad.add i) (World.block_lt_of_cell? w _ hc)).trans hc
      obtain ⟨x, hX⟩ : ∃ x, l.getD i [] = x := ⟨_, rfl⟩
      have hmem : x ∈ l := by rw [← hX, List.getD_eq_getElem?_getD, List.getElem?_eq_getElem HIL.out]; exact List.getElem_mem HIL.out
      have HPRE : Aside0 (pre l i ++ x = pre l (i + 1)) := Aside0.mk (by rw [← hX]; exact pre_succ l i HIL.out)
      rw [hX] at hcr hC
      obtain ⟨vh, hvh⟩ := HTK.out
      have hW := took_write A5 c5 x wr h (kx key 54 ++ pre l i) vh hvh.1 (Kd.C_below hC hB1w) (HB.out.2 x hmem) (old_row (Kd.C_below hC HB0.out) HH.out) (by
        have h1 := pre_le l 1000000 HL.out.2.2 i (by have := HIL.out; omega)
        have h2 := HL.out.2.2 x hmem
        have h3 := HL.out.2.1
        have h4 := HIL.out
        rw [List.length_append, kx_length]
        omega)
      rw [List.append_assoc, HPRE.out] at hW
      have HVH := Aside0.mk hvh
      obtain ⟨mx, hmx⟩ : ∃ m, m = (cN x).length := ⟨_, rfl⟩
      rw [← hmx] at hW hcr
      have HW := Aside0.mk hW
      clear hW hvh hX hmem hmx hC hB1w hc hle HTK hx hi
      go_wp2_with fail
      refine HW.out.mono ?_
      rintro e w6 ⟨rfl, v6, hT6, hk6, hat6⟩
      have hB6 : Below w1.heap.size w1 w6 := HBr.out.trans (hk6.below HH.out HVH.out.2 HBr.out.size)
      have hV6 : ∀ k, v6.ownBlock = some k → w1.heap.size ≤ k := by
        intro k hk
        have h1 := HBr.out.size
        rcases hat6 with e | ⟨q, e, hq⟩
        · rw [e] at hk; exact HVH.out.2 k hk
        · rw [e] at hk
          injection hk with hk
          omega
      have HE : Aside0 (∃ vh, Took w6 h (kx key 54 ++ pre l (i + 1)) vh ∧ ∀ k, vh.ownBlock = some k → w1.heap.size ≤ k) := Aside0.mk ⟨v6, hT6, hV6⟩
      have HB6 := Aside0.mk hB6
      clear hT6 hk6 hat6 hV6 hB6 hcr HW
      go_wp2
      have hx := HIM.out
      have v9 := inc30 (by have := HIL.out; have := HL.out.2.1; omega : i < 30)
      rw [v9]
      exact ⟨⟨i + 1, hx, by rw [Int.natCast_add]; rfl, HE, HB6⟩, by show m1 - ((i : Int) + 1).toNat < m1 - (i : Int).toNat; omega⟩
    · have hi' : i = m1 := by omega
      have HI : Aside0 (i = l.length) := Aside0.mk (hi'.trans HM1.out)
      have t1 : (m1 : Int) ≤ (i : Int) := by omega
      obtain ⟨vh, hvh⟩ := HTK.out
      have hvh1 := hvh.1
      rw [HI.out, pre_all] at hvh1
      have hfl : l.flatten.length ≤ 30000000 := by
        have h1 := pre_le l 1000000 HL.out.2.2 l.length (Nat.le_refl _)
        rw [pre_all] at h1
        have h2 := HL.out.2.1
        omega
      have hsm := took_sum wr h _ _ hvh1 (by rw [List.length_append, kx_length]; omega)
      have HSM := Aside0.mk hsm
      clear hsm hvh hvh1 hfl HTK hx hi hi'
      go_upto_region 8 with (fail)
      rename_i K0 hK0
      apply wp_region_lit
      refine Go.Great.wpList_readTo rfl (some 24) rfl (.pointer (some ⟨h, 0, none⟩)) rfl ?_
      refine wpList_callR rfl (some 25) rfl 26 #[.pointer (some ⟨h, 0, none⟩)] (by simp only [Act.put, List.setIfInBounds_toArray, List.set_cons_zero, List.set_cons_succ]; go_simp) _ HSM.out ?_
      rintro e w6 ⟨rfl, hB6⟩
      refine ⟨_, rfl, ?_⟩
      obtain ⟨D, hDg⟩ : ∃ D, sum (kx key 54 ++ l.flatten) = D := ⟨_, rfl⟩
      have hDl0 : D.length = 32 := by rw [← hDg]; rfl
      have hDb : Bs D := by rw [← hDg]; exact sum_bs _
      rw [hDg]
      have hDl : (cN D).length = 32 := by rw [cN_length, hDl0]
      have hl1 : (ints .u8 (cN D)).length = 32 := by rw [ints_length, hDl]
      refine Go.Great.wpList_allocTo rfl (some 8) rfl _ (.cells (ints .u8 (cN z32)).toArray 26) rfl ?_
      have hA := Arr.new w6 .u8 26 (cN z32)
      have hP7 : Below w6.heap.size w6 (w6.alloc (.cells (ints .u8 (cN z32)).toArray 26)) := below_alloc (Below.refl _ _) _
      generalize w6.alloc (.cells (ints .u8 (cN z32)).toArray 26) = w7 at *
      refine wpList_store_mid rfl 26 (.tmp 8) (.tmp 25) rfl w6.heap.size 0 (ints .u8 (cN D)).toArray rfl rfl (hA.there (by rw [List.size_toArray, hl1]; rfl)) (by rw [List.size_toArray, hl1]; rfl) (all_oneCell_toArray (ints_one _ _)) ?_
      have hA2 := hA.setCells (ys := cN D) (by rw [cN_length, hDl]; rfl)
      have hP8 := below_setCells (Nat.le_refl w6.heap.size) (ints .u8 (cN D)) 0 w7 hP7
      apply wpList_nil
      refine hK0 _ _ ?_
      rw [List.toList_toArray]
      clear hA hP7 hK0 K0
      generalize w7.setCells w6.heap.size 0 (ints .u8 (cN D)) = w8 at *
      have HB8 : Aside0 (Below w1.heap.size w1 w8) := Aside0.mk ((HBr.out.trans (hB6.mono HBr.out.size)).trans (hP8.mono (Nat.le_trans HBr.out.size hB6.size)))
      have HA8 := Aside0.mk hA2
      have HD := Aside0.mk (And.intro hDg (And.intro hDl0 (And.intro hDl (And.intro hl1 hDb))))
      clear hB6 hDg hDl0 hDl hl1 hA2 hP8 HSM hDb
      generalize w6.heap.size = gd at *
      have HW92 : Aside0 (∀ W, Below w1.heap.size w1 W → Calls Try.prog 57 #[.slice A0 m0 k0, .int .u8 92] W fun e w' => ∃ g c, e = .returned (.slice (some ⟨g, 0, none⟩) 64 c) ∧ w'.ownsRow W.heap.size 5 1 (.slice (some ⟨g, 0, none⟩) 64 c) 64 (nums .u8 (cN (kx key 92))) ∧ Below W.heap.size W w') := Aside0.mk (fun W hb => by
        have h := with_calls A0 k0 key 92 W (HK0.out W hb) HB.out.1 (by decide) (by have := HL.out.1; omega)
        rw [← HM.out.1] at h
        exact h)
      have HK9 : Aside0 ((cN (kx key 92)).length = 64) := Aside0.mk (by rw [cN_length, kx_length])
      have HL9 : Aside0 (((cN (kx key 92)).length + 32) * 1 ≤ 140737488355328) := Aside0.mk (by rw [HK9.out]; decide)
      go_wp2
      refine start_ (n := 6) (S := fun w' => Below w1.heap.size w1 w' ∧ Arr .u8 26 w' gd (cN D)) (ds := [5]) #[false, false, false, false, false, false] (by kernel_rfl) rfl rfl ⟨HB8.out.drew, HA8.out.drew⟩ (fun hHeld => ?_)
      refine pure_ (i := 0) (N := some 26) (v := ?_) (a' := ?_) #[true, false, false, false, false, false] rfl rfl (by kernel_rfl) (fun _ _ _ h => h) (Or.inl ⟨by rfl, ?_⟩) ?_ ?_
      rotate_left
      · intro w'
        go_simp
        with_reducible rfl
      rotate_left
      · simp only [Act.put, List.setIfInBounds_toArray, List.set_cons_zero, List.set_cons_succ, i64_w, i32_w]
        rfl
      refine pure_ (i := 2) (N := some 28) (v := ?_) (a' := ?_) #[true, false, true, false, false, false] rfl rfl (by kernel_rfl) (fun _ _ _ h => h) (Or.inl ⟨by rfl, ?_⟩) ?_ ?_
      rotate_left
      · intro w'
        go_simp
        with_reducible rfl
      rotate_left
      · simp only [Act.put, List.setIfInBounds_toArray, List.set_cons_zero, List.set_cons_succ, i64_w, i32_w]
        rfl
      refine one_ (i := 1) (N := some 27) #[true, true, true, false, false, false] rfl rfl (by kernel_rfl) (by decide) (fun K hK => ?_)
      refine goes_ Try.func57 (by kernel_rfl) rfl #[.slice A0 m0 k0, .int .u8 92] (by rfl) rfl rfl (by simp only [List.map_toArray, List.map_cons, List.map_nil]; rfl) ?_
      with_reducible refine (HW92.out _ hHeld.1).mono ?_
      rintro e u1 ⟨gb2, cb2, rfl, hO1, hB1⟩
      refine ⟨_, rfl, ?_⟩
      refine hK.out _ _ ⟨hHeld.1.trans (hB1.mono hHeld.1.size), hHeld.2.below hB1 hHeld.2.size⟩ (fun hHeld => ?_)
      clear hK K
      refine norm_ (a' := ?_) ?_ ?_
      rotate_left
      · show Act.put _ (some 27) _ = _
        simp only [Act.put, List.setIfInBounds_toArray, List.set_cons_zero, List.set_cons_succ, i64_w, i32_w]
        rfl
      refine one_ (i := 3) (N := some 29) #[true, true, true, true, false, false] rfl rfl (by kernel_rfl) (by decide) (fun K hK => ?_)
      have hO1b := own64 HK9.out hO1
      have hRD := arr_C32 HD.out.2.2.1 hHeld.2
      refine Kd.R_append_rows_step (Kd.int .u8) (w0 := u1) (W := u1) w8.heap.size (by rfl) (.tmp 27) (.tmp 28) 40 5 (.int .u8 0) 1 rfl rfl rfl rfl (by decide) (by omega) (.slice (some ⟨gb2, 0, none⟩) 64 cb2) (cN (kx key 92)) (cN D) (some ⟨gd, 0, none⟩) 32 32 (fun _ => True) (fun _ => False) rfl rfl (Kd.R_of_own hO1b (fun _ _ => trivial)) hRD (fun _ _ h => h) (fun _ h => h.elim) (fun _ _ => trivial) (Below.refl _ _) hB1.size HL9.out ?_
      intro v2 u2 ho hb hg hat
      clear hg hat
      obtain ⟨A2, k2, rfl⟩ := own_slice (Kd.own_of_R ho)
      have hSU := sum_calls A2 k2 (kx key 92 ++ D) u2 (own_app (Kd.own_of_R ho)) ((kx_bs key 92 HB.out.1 (by decide)).append HD.out.2.2.2.2) (by rw [List.length_append, kx_length, HD.out.2.1]; decide)
      rw [show (cN (kx key 92 ++ D)).length = (cN (kx key 92) ++ cN D).length by rw [cN_append]] at hSU
      have HSU := Aside0.mk hSU
      clear hSU ho
      refine hK.out _ _ ⟨hHeld.1.trans (hb.mono HB8.out.size), hHeld.2.below hb HA8.out.size⟩ (fun hHeld => ?_)
      clear hK K
      refine norm_ (a' := ?_) ?_ ?_
      rotate_left
      · show Act.put _ (some 29) _ = _
        simp only [Act.put, List.setIfInBounds_toArray, List.set_cons_zero, List.set_cons_succ, i64_w, i32_w]
        rfl
      refine one_ (i := 4) (N := some 30) #[true, true, true, true, true, false] rfl rfl (by kernel_rfl) (by decide) (fun K hK => ?_)
      refine goes_ Try.func10 (by kernel_rfl) rfl #[.slice A2 (cN (kx key 92) ++ cN D).length k2] (by rfl) rfl rfl (by simp only [List.map_toArray, List.map_cons, List.map_nil]; rfl) ?_
      with_reducible refine (HSU.out).mono ?_
      rintro e u3 ⟨rfl, hB3⟩
      refine ⟨_, rfl, ?_⟩
      refine hK.out _ _ ⟨hHeld.1.trans (hB3.mono hHeld.1.size), hHeld.2.below hB3 hHeld.2.size⟩ (fun hHeld => ?_)
      clear hK K
      refine norm_ (a' := ?_) ?_ ?_
      rotate_left
      · show Act.put _ (some 30) _ = _
        simp only [Act.put, List.setIfInBounds_toArray, List.set_cons_zero, List.set_cons_succ, i64_w, i32_w]
        rfl
      refine last_ (i := 5) (N := none) #[true, true, true, true, true, true] rfl rfl (by kernel_rfl) (by decide) (fun K hK => ?_)
      have hA9 := HA0.out.below hHeld.1 (by have := HS0.out; omega)
      refine skip_store (by rfl) rfl 26 (.tmp 4) (.tmp 30) rfl w.heap.size 0 (ints .u8 (cN (sum (kx key 92 ++ D)))).toArray rfl rfl (hA9.there (by rw [List.size_toArray, ints_length, sum_len32]; rfl)) (by rw [List.size_toArray, ints_length, sum_len32]; rfl) (all_oneCell_toArray (ints_one _ _)) ?_
      rw [List.toList_toArray]
      have hA10 := hA9.setCells (ys := cN (sum (kx key 92 ++ D))) (by rw [cN_length, sum_len32]; rfl)
      have hB10 := below_setCells (Nat.le_refl w.heap.size) (ints .u8 (cN (sum (kx key 92 ++ D)))) 0 u3 (HB0.out.trans (hHeld.1.mono HB0.out.size))
      generalize u3.setCells w.heap.size 0 (ints .u8 (cN (sum (kx key 92 ++ D)))) = u4 at *
      refine hK.out _ _ ?_
      clear hK K
      refine done_ (by kernel_rfl) ?_
      go_wp2
      refine bodyPost_ret (v := .agg (ints .u8 (cN (sum (kx key 92 ++ D)))).toArray) ?_ rfl ⟨by rw [macOf, HD.out.1], hB10⟩
      exact results_cell_row rfl _ _ w.heap.size 26 (ints .u8 (cN (sum (kx key 92 ++ D)))).toArray (0, 0) _ rfl hA10 rfl rfl (by rw [List.size_toArray, ints_length, sum_len32]; rfl)
theorem marked3 (w : World) (C : Array Value) (t : TypeId) (fr : Nat × Nat) (j : Nat) (v : Value) (h : C[j]? = some v) : (w.alloc (.cells C t fr)).cell? (Addr.add ⟨w.heap.size, 0, none⟩ j) = some v := by
  have e : Addr.add ⟨w.heap.size, 0, none⟩ j = ⟨w.heap.size, j, none⟩ := by rw [Addr.add_mid, Nat.zero_add]
  rw [e]
  have h0 : (w.alloc (.cells C t fr)).heap[w.heap.size]? = some (.cells C t fr) := heap_alloc_new w _
  simp only [World.cell?, h0]
  simpa using h
/-- a row of rows, of its cells -/
theorem rows_mk {w : World} {g : Nat} {T : TypeId} (l : List (List Nat)) (vs : List Value) (hc : w.heap[g]? = some (.cells vs.toArray T (0, 0)))
    (hv : ∀ (i : Nat) (x : List Nat), l[i]? = some x → ∃ A c, vs[i]? = some (.slice A (cN x).length c) ∧ (cN x).length ≤ c ∧ Kd.C (Kd.int .u8) w A (cN x).length (cN x)) (hl : l.length ≤ 9223372036854775807) :
    Kd.C (Kd.slice 5 (Kd.int .u8)) w (some ⟨g, 0, none⟩) (l.map cN).length (l.map cN) := by
  refine ⟨rfl, by rw [List.length_map]; exact hl, fun _ => ⟨⟨g, 0, none⟩, rfl, fun j p hp => ?_⟩⟩
  rw [List.getElem?_map] at hp
  cases hx : l[j]? with
  | none => rw [hx] at hp; cases hp
  | some x =>
    rw [hx] at hp
    injection hp with hp
    subst hp
    obtain ⟨A, c, h1, h2, h3⟩ := hv j x hx
    refine ⟨[.slice A (cN x).length c], rfl, ⟨A, c, rfl, h2, h3⟩, fun i u hu => ?_⟩
    match i with
    | 0 =>
      injection hu with hu
      subst hu
      rw [show (⟨g, 0, none⟩ : Addr).add (j * (Kd.slice 5 (Kd.int IntKind.u8)).sz + 0) = ⟨g, j, none⟩ by rw [Addr.add_mid]; show (⟨g, 0 + (j * 1 + 0), none⟩ : Addr) = _; congr 1; omega]
      simp only [World.cell?, hc]
      simpa using h1
    | n + 1 => cases hu
theorem alloc_size (u : World) (o : Obj) : (u.alloc o).heap.size = u.heap.size + 1 := by simp
end Go.Proofs.Ytojlhmmmiebbmaa.PNonceLists
