/- (*sha.Hash).Sum. -/
import Derived.Test.YtinjhmmbndonhaaHj
namespace Go.Proofs.Ytinjhmmbndonhaa.PShaSums
open Go.RowKit Go.Proofs.YtinjhmmbndonhaaW.PrintWords Go.Proofs.YtinjhmmbndonhaaW.PrintLast Go.Proofs.YtinjhmmbndonhaaW.PrintMore Go.Proofs.Ytinjhmmbndonhaa.Sha Go.Proofs.Ytinjhmmbndonhaa.Arr
attribute [local go_sem] max2_int min2_int max_two min_two max_three min_three max_four min_four
attribute [local go_sem high] u8_w
set_option linter.unusedVariables false
set_option linter.unusedSimpArgs false
def z32 : List Nat := List.replicate 32 0
/-- the padding that a rest of r bytes, of n in all, asks for -/
def pad1 (j : Nat) : List Nat := 128 :: List.replicate j 0
def lenb (n t : Nat) : Nat := 8 * n / 2 ^ (56 - 8 * t) % 256
def lens (n k : Nat) : List Nat := (List.range k).map (lenb n)
def padl (r n : Nat) : List Nat := pad1 ((119 - r % 64) % 64) ++ lens n 8
theorem pad1_length (j : Nat) : (pad1 j).length = j + 1 := by simp [pad1]
theorem pad1_succ (j : Nat) : pad1 j ++ [0] = pad1 (j + 1) := by
  show 128 :: (List.replicate j 0 ++ [0]) = 128 :: List.replicate (j + 1) 0
  rw [List.replicate_succ']
theorem lens_succ (n k : Nat) : lens n k ++ [lenb n k] = lens n (k + 1) := by simp [lens, List.range_succ]
theorem lens_length (n k : Nat) : (lens n k).length = k := by simp [lens]
theorem Bs.pad1 (j : Nat) : Bs (pad1 j) := by
  intro i
  unfold PShaSums.pad1
  rw [List.getD_eq_getElem?_getD]
  cases i with
  | zero => simp
  | succ i => rw [List.getElem?_cons_succ, List.getElem?_replicate]; split <;> simp
theorem Bs.lens (n k : Nat) : Bs (lens n k) := by
  intro i
  unfold PShaSums.lens
  rw [List.getD_eq_getElem?_getD, List.getElem?_map]
  cases (List.range k)[i]? with
  | none => simp
  | some j => exact Nat.mod_lt _ (by omega)
theorem KB.below {w w1 : World} {g B : Nat} {row : Option Nat} (h : KB w w1 g row) (hg : B ≤ g) (hr : ∀ k, row = some k → B ≤ k) (hB : B ≤ w.heap.size) : Below B w w1 :=
  ⟨h.os, h.tape, h.output, h.keep.1, fun i hi => h.keep.2 i (by omega) (by omega) (fun e => by have := hr i e.symm; omega)⟩
theorem take_set (l : List Nat) (N i : Nat) (h : i < N) (hl : l.length = N) : (l.take i ++ List.replicate (N - i) 0).set i (l.getD i 0) = l.take (i + 1) ++ List.replicate (N - (i + 1)) 0 := by
  have h1 : (l.take i).length = i := by rw [List.length_take]; omega
  have e : N - i = (N - (i + 1)) + 1 := by omega
  rw [List.set_append_right _ _ (by omega), h1, Nat.sub_self, e, List.replicate_succ, List.set_cons_zero]
  have e2 : l.take (i + 1) = l.take i ++ [l.getD i 0] := by
    rw [List.take_add_one, List.getD_eq_getElem?_getD, List.getElem?_eq_getElem (by omega)]
    rfl
  rw [e2, List.append_assoc]
  rfl
theorem bytes_length (S : H8) : S.bytes.length = 32 := rfl
theorem bytes_get (S : H8) (i : Nat) (h : i < 32) : S.bytes.getD i 0 = S.list.getD (i / 4) 0 / 2 ^ (24 - 8 * (i % 4)) % 256 := by
  match i, h with
  | 0, _ => exact rfl
  | 1, _ => exact rfl
  | 2, _ => exact rfl
  | 3, _ => exact (congrArg (· % 256) (Nat.div_one _)).symm
  | 4, _ => exact rfl
  | 5, _ => exact rfl
  | 6, _ => exact rfl
  | 7, _ => exact (congrArg (· % 256) (Nat.div_one _)).symm
  | 8, _ => exact rfl
  | 9, _ => exact rfl
  | 10, _ => exact rfl
  | 11, _ => exact (congrArg (· % 256) (Nat.div_one _)).symm
  | 12, _ => exact rfl
  | 13, _ => exact rfl
  | 14, _ => exact rfl
  | 15, _ => exact (congrArg (· % 256) (Nat.div_one _)).symm
  | 16, _ => exact rfl
  | 17, _ => exact rfl
  | 18, _ => exact rfl
  | 19, _ => exact (congrArg (· % 256) (Nat.div_one _)).symm
  | 20, _ => exact rfl
  | 21, _ => exact rfl
  | 22, _ => exact rfl
  | 23, _ => exact (congrArg (· % 256) (Nat.div_one _)).symm
  | 24, _ => exact rfl
  | 25, _ => exact rfl
  | 26, _ => exact rfl
  | 27, _ => exact (congrArg (· % 256) (Nat.div_one _)).symm
  | 28, _ => exact rfl
  | 29, _ => exact rfl
  | 30, _ => exact rfl
  | 31, _ => exact (congrArg (· % 256) (Nat.div_one _)).symm
  | n + 32, h => omega
theorem list_lt (S : H8) (h : okH S) (i : Nat) : S.list.getD i 0 < 4294967296 := by
  obtain ⟨h0, h1, h2, h3, h4, h5, h6, h7⟩ := h
  match i with
  | 0 => exact h0
  | 1 => exact h1
  | 2 => exact h2
  | 3 => exact h3
  | 4 => exact h4
  | 5 => exact h5
  | 6 => exact h6
  | 7 => exact h7
  | n + 8 => exact Nat.zero_lt_succ _
theorem hcell {w : World} {g n : Nat} {s : H8} {rest : List Nat} {v : Value} (h : HashAt w g s rest n v) (i : Nat) (hi : i < 8) : w.cell? ⟨g, i, none⟩ = some (.int .u32 (s.list.getD i 0 : Nat)) := by
  refine h.row.cell i _ ?_
  rw [List.getElem?_append_left (by rw [ints_length]; exact hi), ints_get _ _ _ (show i < 8 from hi), rd_cN]
set_option maxHeartbeats 4000000 in
set_option maxRecDepth 100000 in
theorem hsum_calls (w : World) (g n : Nat) (s : H8) (rest : List Nat) (v : Value) (h : HashAt w g s rest n v) (hl : rest.length ≤ 1000000000000) (hn : n ≤ 1000000000000) :
    Calls Try.prog 13 #[.pointer (some ⟨g, 0, none⟩)] w fun e w' => e = .returned (.agg (ints .u8 (cN (run s (rest ++ padl rest.length n)).1.bytes)).toArray) ∧ Below w.heap.size w w' := by
  have HH := Aside0.mk h
  have HL := Aside0.mk (And.intro hl hn)
  clear h hl hn
  go_enter Try.func13, Try.ntmps13
  go_upto_region 1 with (fail)
  refine wp_at (w2 := (w.alloc (.cells (ints .u8 (cN z32)).toArray 25))) rfl ?_
  have hA0 : Arr .u8 25 (w.alloc (.cells (ints .u8 (cN z32)).toArray 25)) w.heap.size (cN z32) := Arr.new w .u8 _ _
  have hB0 : Below w.heap.size w (w.alloc (.cells (ints .u8 (cN z32)).toArray 25)) := below_alloc (Below.refl _ _) _
  have hs0 : (w.alloc (.cells (ints .u8 (cN z32)).toArray 25)).heap.size = w.heap.size + 1 := by simp
  generalize w.alloc (.cells (ints .u8 (cN z32)).toArray 25) = w1 at *
  have h1 := HH.out.below hB0
  have HCL := Aside0.mk (clone_calls w1 g n s rest v h1 (by have := HL.out.1; omega))
  have H1 := Aside0.mk h1
  have HA0 := Aside0.mk hA0
  have HB0 := Aside0.mk hB0
  have HS0 := Aside0.mk hs0
  clear h1 hA0 hB0 hs0
  go_upto_region 2 with (first | ((with_reducible refine gate_callee (f := 16) rfl ?_); refine goesL_ (some 9) rfl rfl Try.func16 (by kernel_rfl) rfl #[.pointer (some ⟨g, 0, none⟩)] rfl (by (try simp only [List.map_toArray, List.map_cons, List.map_nil]); first | done | rfl) ?_; (with_reducible refine (HCL.out).mono ?_); rintro e w2 ⟨g2, rfl, hg2, v2, hH2, hf2, hB2⟩; refine ⟨_, rfl, ?_⟩))
  have H2 := Aside0.mk hH2
  have HG2 := Aside0.mk hg2
  have HF2 := Aside0.mk hf2
  have HB2 := Aside0.mk hB2
  have HAB := Aside0.mk (HA0.out.below hB2 (by have := HS0.out; omega))
  have HHB := Aside0.mk (H1.out.below hB2)
  clear hH2 hg2 hf2 hB2 HCL
  go_upto_region 3 with (fail)
  obtain ⟨A2, c2, rfl, hle2, hC2⟩ := H2.out.slice
  obtain ⟨r, hr⟩ : ∃ r, r = (cN rest).length := ⟨_, rfl⟩
  have hrr : r = rest.length := by rw [hr, cN_length]
  have ho0 : (w2.alloc (.cells (nums .u8 (cN (pad1 0))).toArray 5)).ownsRow w2.heap.size 5 1 (.slice (some ⟨w2.heap.size, 0, none⟩) 1 1) (cN (pad1 0)).length (nums .u8 (cN (pad1 0))) := own_lit w2 w2.heap.size 5 .u8 (cN (pad1 0)) (Nat.le_refl _) (by decide)
  have hb0 : Below w2.heap.size w2 (w2.alloc (.cells (nums .u8 (cN (pad1 0))).toArray 5)) := below_alloc (Below.refl _ _) _
  have HO0 := Aside0.mk ho0
  have HP0 := Aside0.mk hb0
  have HR := Aside0.mk (And.intro hr hrr)
  refine wp_at (w2 := w2.alloc (.cells (nums .u8 (cN (pad1 0))).toArray 5)) rfl ?_
  clear ho0 hb0 hle2 hC2 hr hrr
  generalize w2.alloc (.cells (nums .u8 (cN (pad1 0))).toArray 5) = w3 at *
  go_loopw [4] (fun vv wr => ∃ j : Nat, j ≤ (119 - rest.length % 64) % 64 ∧ Aside0 (wr.ownsRow w2.heap.size 5 1 vv (cN (pad1 j)).length (nums .u8 (cN (pad1 j)))) ∧ Aside0 (Below w2.heap.size w2 wr))
    (fun vv _ => 64 - (match vv with | .slice _ m _ => m | _ => 0))
  case atStart => exact ⟨0, Nat.zero_le _, HO0, HP0⟩
  case round =>
    clear HO0 HP0
    obtain ⟨j, hj, HO, HP⟩ := hrel
    obtain ⟨A3, k3, rfl⟩ := own_slice HO.out
    obtain ⟨m, hm⟩ : ∃ m, m = (cN (pad1 j)).length := ⟨_, rfl⟩
    have hmj : m = j + 1 := by rw [hm, cN_length, pad1_length]
    rw [← hm]
    have c8 := (H2.out.below HP.out).c8
    rw [← HR.out.1] at c8
    obtain ⟨rm, hrm⟩ : ∃ rm, rm = r + m := ⟨_, rfl⟩
    have q1 : wrap64 ((r : Int) + (m : Int)) = (rm : Int) := by have := HL.out.1; have := HR.out.2; unfold wrap64; omega
    have HO' : Aside0 (wr.ownsRow w2.heap.size 5 1 (.slice A3 m k3) (cN (pad1 j)).length (nums .u8 (cN (pad1 j)))) := Aside0.mk (by rw [hm]; exact HO.out)
    have HM := Aside0.mk (And.intro hm (And.intro hmj hrm))
    have HJ := Aside0.mk hj
    have HL1 : Aside0 (((cN (pad1 j)).length + 1) * 1 ≤ 140737488355328) := Aside0.mk (by rw [cN_length, pad1_length]; omega)
    clear HO
    by_cases hx : rm % 64 = 56
    · have d1 : ((rm : Int) % 64 != 56) = false := by simp; omega
      have hJ : j = (119 - rest.length % 64) % 64 := by have := HR.out.2; omega
      have HJJ := Aside0.mk hJ
      clear hx hm hmj hrm hj hJ
      go_wp2
      have ho6 := HO'.out
      rw [HJJ.out] at ho6
      have HO6 := Aside0.mk (show wr.ownsRow w2.heap.size 5 1 (.slice A3 m k3) (cN (pad1 ((119 - rest.length % 64) % 64) ++ lens n 0)).length (nums .u8 (cN (pad1 ((119 - rest.length % 64) % 64) ++ lens n 0))) by rw [show lens n 0 = [] from rfl, List.append_nil]; exact ho6)
      clear ho6 c8 q1 d1
      generalize hP : pad1 ((119 - rest.length % 64) % 64) = Pd at *
      have HPD := Aside0.mk hP
      have hPl : Pd.length ≤ 64 := by rw [← hP, pad1_length]; omega
      have HPL := Aside0.mk hPl
      clear hP hPl
      generalize Value.slice A3 m k3 = v3 at *
      go_loopw [4, 5] (fun vv vi wr => ∃ t : Nat, t ≤ 8 ∧ vi = .int .i64 (56 - 8 * (t : Int)) ∧ Aside0 (wr.ownsRow w2.heap.size 5 1 vv (cN (Pd ++ lens n t)).length (nums .u8 (cN (Pd ++ lens n t)))) ∧ Aside0 (Below w2.heap.size w2 wr))
        (fun vv vi _ => (intOf vi + 8).toNat)
      case atStart => exact ⟨0, by omega, rfl, HO6, HP⟩
      case round =>
        clear HO6 HP HO'
        obtain ⟨t, ht, rfl, HO, HP⟩ := hrel
        obtain ⟨A7, k7, rfl⟩ := own_slice HO.out
        obtain ⟨m7, hm7⟩ : ∃ m, m = (cN (Pd ++ lens n t)).length := ⟨_, rfl⟩
        rw [← hm7]
        have hm8 : m7 = Pd.length + t := by rw [hm7, cN_length, List.length_append, lens_length]
        have HO7 : Aside0 (wr.ownsRow w2.heap.size 5 1 (.slice A7 m7 k7) (cN (Pd ++ lens n t)).length (nums .u8 (cN (Pd ++ lens n t)))) := Aside0.mk (by rw [hm7]; exact HO.out)
        have c9 := (HHB.out.below HP.out).c9
        have HL7 : Aside0 (((cN (Pd ++ lens n t)).length + 1) * 1 ≤ 140737488355328) := Aside0.mk (by have := HPL.out; rw [← hm7]; omega)
        have HM7 := Aside0.mk hm7
        have HM8 := Aside0.mk hm8
        clear HO
        by_cases hx : t < 8
        · obtain ⟨i, hi⟩ : ∃ i : Nat, i = 56 - 8 * t := ⟨_, rfl⟩
          have hz : (56 : Int) - 8 * (t : Int) = (i : Int) := by omega
          rw [hz]
          have HI := Aside0.mk (And.intro hi hx)
          clear hm7 hm8 ht hi hz hx
          go_wp2_with (first | ((with_reducible refine gate_dst (N := 39) rfl ?_); refine print_append_num (w0 := w2) w2.heap.size rfl (.tmp 28) (.tmp 38) 22 5 .u8 1 rfl rfl rfl (by omega) (.slice A7 m7 k7) (cN (Pd ++ lens n t)) (IntKind.u64.wrap (8 * IntKind.u64.wrap (n : Int)) / 2 ^ min i 64 % 256) rfl rfl HO7.out HP.out HP.out.size HL7.out ?_; intro v4 w4 ho4 hb4 hg4 hat4; clear hg4 hat4; have HO4 := Aside0.mk ho4; have HP4 := Aside0.mk hb4; clear ho4 hb4))
          have ho4 := HO4.out
          have e1 : IntKind.u64.wrap (8 * IntKind.u64.wrap (n : Int)) / 2 ^ min i 64 % 256 = ((lenb n t : Nat) : Int) := by
            have h1 := HL.out.2
            have h2 := HI.out.1
            have e2 : IntKind.u64.wrap (8 * IntKind.u64.wrap (n : Int)) = ((8 * n : Nat) : Int) := by rw [IntKind.wrap_u64, IntKind.wrap_u64]; omega
            rw [e2, show min i 64 = 56 - 8 * t by omega]
            unfold lenb
            rw [Int.natCast_emod, Int.natCast_ediv, Int.natCast_pow]
            rfl
          have e0 : cN (Pd ++ lens n t) ++ [IntKind.u64.wrap (8 * IntKind.u64.wrap (n : Int)) / 2 ^ min i 64 % 256] = cN (Pd ++ lens n (t + 1)) := by
            rw [e1, ← lens_succ, ← List.append_assoc, cN_append _ [lenb n t]]
            rfl
          rw [e0] at ho4
          have h2 := HI.out
          rw [show wrap64 ((i : Int) - 8) = (i : Int) - 8 by unfold wrap64; omega]
          refine ⟨⟨t + 1, by omega, by congr 1; omega, Aside0.mk ho4, HP4⟩, ?_⟩
          show ((i : Int) - 8 + 8).toNat < ((i : Int) + 8).toNat
          omega
        · have ht8 : t = 8 := by omega
          subst ht8
          have hz : (56 : Int) - 8 * ((8 : Nat) : Int) = -8 := by decide
          rw [hz]
          have hPd : Pd ++ lens n 8 = padl rest.length n := by rw [← HPD.out]; rfl
          have hBsP : Bs (Pd ++ lens n 8) := by rw [← HPD.out]; exact (Bs.pad1 _).append (Bs.lens _ _)
          have hC7 : Kd.C (Kd.int .u8) wr A7 (cN (Pd ++ lens n 8)).length (cN (Pd ++ lens n 8)) := by
            obtain ⟨A9, c9', e9, h9⟩ := own_reads_of (enc := Value.int .u8) (d := (0 : Int)) HO7.out
            injection e9 with e1 e2 e3
            rw [e1]
            exact Kd.C_of_reads h9
          have hf7 : ∀ ad, A7 = some ad → 0 < (cN (Pd ++ lens n 8)).length → ad.block ≠ g2 := by
            intro ad e _ he
            subst e
            have h1 := own_base HO7.out ad.block rfl
            have h2 := H2.out.size
            omega
          have hlen : (Pd ++ lens n 8).length ≤ 72 := by rw [List.length_append, lens_length]; have := HPL.out; omega
          have h2 := H2.out.below HP.out
          have HW := write_calls A7 k7 (Pd ++ lens n 8) wr g2 n s rest _ h2 hC7 hBsP hf7 (by have := HL.out.1; omega) (by have := HL.out.2; omega)
          rw [← HM7.out, hPd] at HW
          have HW := Aside0.mk HW
          clear hx hz ht hm7 hm8 hPd hBsP hC7 hf7 hlen h2 c9
          go_upto_region 10 with (first | ((with_reducible refine gate_callee (f := 15) rfl ?_); refine goesL_ (some 42) rfl rfl Try.func15 (by kernel_rfl) rfl #[.pointer (some ⟨g2, 0, none⟩), .slice A7 m7 k7] rfl (by (try simp only [List.map_toArray, List.map_cons, List.map_nil]); first | done | rfl) ?_; (with_reducible refine (HW.out).mono ?_); rintro e w5 ⟨rfl, v5, hH5, hk5, hat5⟩; refine ⟨_, rfl, ?_⟩))
          have H5 := Aside0.mk hH5
          have HK5 := Aside0.mk hk5
          clear hH5 hk5 hat5 HW
          have hBT : Below (w.heap.size + 1) w1 w5 := by
            have e := HS0.out
            have h1 := HB2.out.size
            have h2 := HP.out.size
            refine ((HB2.out.mono (by omega)).trans (HP.out.mono (by omega))).trans (HK5.out.below (by have := HG2.out; omega) ?_ (by omega))
            intro k hk
            have := HF2.out k hk
            omega
          have HA5 := Aside0.mk (HA0.out.below hBT (by omega))
          have HB5 := Aside0.mk (HB0.out.trans (hBT.mono (by omega)))
          clear hBT HB2 HP HK5 HAB HHB HO7 HL7 HM7 HM8 HW HPL HPD HM HJ HL1 HJJ HF2 H1
          have hsz : w.heap.size < w5.heap.size := HA5.out.size
          have hg2 : g2 < w5.heap.size := H5.out.size
          have HSZ := Aside0.mk (And.intro hsz hg2)
          clear hsz hg2
          generalize hS1 : (run s (rest ++ padl rest.length n)).1 = S1 at *
          have HS1 := Aside0.mk hS1
          clear hS1
          generalize (run s (rest ++ padl rest.length n)).2 = R1 at *
          go_upto_region 11 with (fail)
          refine wp_at (w2 := w5.alloc (.cells (ints .u8 (cN z32)).toArray 25)) rfl ?_
          have HA6 : Aside0 (Arr .u8 25 (w5.alloc (.cells (ints .u8 (cN z32)).toArray 25)) w5.heap.size (cN (S1.bytes.take 0 ++ List.replicate (32 - 0) 0))) := Aside0.mk (Arr.new w5 .u8 _ _)
          have HB6 : Aside0 (Below w5.heap.size w5 (w5.alloc (.cells (ints .u8 (cN z32)).toArray 25))) := Aside0.mk (below_alloc (Below.refl _ _) _)
          generalize w5.alloc (.cells (ints .u8 (cN z32)).toArray 25) = w6 at *
          go_wp2
          go_loopw [43] (fun vi wr => ∃ i : Nat, i ≤ 32 ∧ vi = .int .i64 (i : Int) ∧ Aside0 (Arr .u8 25 wr w5.heap.size (cN (S1.bytes.take i ++ List.replicate (32 - i) 0))) ∧ Aside0 (Below w5.heap.size w5 wr))
            (fun vi _ => 32 - (intOf vi).toNat)
          case atStart => exact ⟨0, by omega, rfl, HA6, HB6⟩
          case round =>
            clear HA6 HB6
            obtain ⟨i, hi, rfl, HA6, HB6⟩ := hrel
            by_cases hx : i < 32
            · have t1 : (i : Int) < 32 := by omega
              obtain ⟨i4, h4⟩ : ∃ j, j = i / 4 := ⟨_, rfl⟩
              obtain ⟨im, hm⟩ : ∃ j, j = i % 4 := ⟨_, rfl⟩
              obtain ⟨sh, hsh⟩ : ∃ j, j = 24 - 8 * im := ⟨_, rfl⟩
              obtain ⟨e8, he8⟩ : ∃ j, j = 8 * im := ⟨_, rfl⟩
              have q4 : (i : Int) / 4 = (i4 : Int) := by omega
              have q5 : (i : Int) % 4 = (im : Int) := by omega
              have q6 : wrap64 (8 * (im : Int)) = (e8 : Int) := by unfold wrap64; omega
              have q7 : wrap64 (24 - (e8 : Int)) = (sh : Int) := by unfold wrap64; omega
              have t2 : (i4 : Int) < 8 := by omega
              have hc := hcell (H5.out.below HB6.out) i4 (by omega)
              have hlen : (cN (S1.bytes.take i ++ List.replicate (32 - i) 0)).length = 32 := by rw [cN_length, List.length_append, List.length_take, List.length_replicate, bytes_length]; omega
              have hcw := HA6.out.cell i (by rw [hlen]; exact hx)
              have hfw := HA6.out.free i
              have hget := bytes_get S1 i hx
              have hok : S1.list.getD i4 0 < 4294967296 := list_lt S1 (H5.out.ok) i4
              rw [← h4, ← hm, ← hsh] at hget
              generalize S1.list.getD i4 0 = x at *
              have HX := Aside0.mk (And.intro hx (And.intro hsh (And.intro hm hok)))
              have HGET := Aside0.mk hget
              clear hx h4 hm hsh he8 hlen hget hok hi
              go_wp2
              have hv : (x : Int) / 2 ^ (24 - 8 * im) % 256 = ((S1.bytes.getD i 0 : Nat) : Int) := by
                rw [HGET.out, HX.out.2.1, Int.natCast_emod, Int.natCast_ediv, Int.natCast_pow]
                rfl
              rw [hv]
              have hA := HA6.out.set i ((S1.bytes.getD i 0 : Nat) : Int)
              rw [cN_set, take_set S1.bytes 32 i HX.out.1 (bytes_length S1)] at hA
              have hB := HB6.out.setCell (p := ⟨w5.heap.size, i, none⟩) (Nat.le_refl _) (.int .u8 ((S1.bytes.getD i 0 : Nat) : Int))
              have hx := HX.out.1
              exact ⟨⟨i + 1, by omega, by rw [Int.natCast_add]; rfl, Aside0.mk hA, Aside0.mk hB⟩, by show 32 - ((i : Int) + 1).toNat < 32 - (i : Int).toNat; omega⟩
            · have hi32 : i = 32 := by omega
              subst hi32
              clear hx
              have e0 : S1.bytes.take 32 ++ List.replicate (32 - 32) 0 = S1.bytes := by
                rw [Nat.sub_self, List.replicate_zero, List.append_nil, List.take_of_length_le (by rw [bytes_length S1]; exact Nat.le_refl _)]
              have hA1 := HA6.out
              rw [e0] at hA1
              clear e0 HA6
              have hA0 := HA5.out.below HB6.out HSZ.out.1
              have hB := HB5.out.trans (HB6.out.mono (Nat.le_of_lt HSZ.out.1))
              have hW := bytes_length S1
              generalize hWe : S1.bytes = W at *
              have HWE := Aside0.mk hWe
              clear hWe
              have hl1 : (ints .u8 (cN W)).length = 32 := by rw [ints_length, cN_length, hW]
              go_upto_region 16 with (fail)
              rename_i K0 hK0
              apply wp_region_lit
              refine wpList_load_mid rfl 25 (.tmp 6) rfl _ 0 rfl (ints .u8 (cN W)) _ hA1.range rfl rfl (by rw [hl1]; rfl) ?_
              refine wpList_store_mid rfl 25 (.tmp 2) (.tmp 62) rfl _ 0 (ints .u8 (cN W)).toArray rfl rfl (hA0.there (by rw [List.size_toArray, hl1]; rfl)) (by rw [List.size_toArray, hl1]; rfl) (all_oneCell_toArray (ints_one _ _)) ?_
              have hA2 := hA0.setCells (ys := cN W) (by rw [cN_length, cN_length, hW]; rfl)
              have hB2 := below_setCells (Nat.le_refl w.heap.size) (ints .u8 (cN W)) 0 wr hB
              apply wpList_nil
              refine hK0 _ _ ?_
              rw [List.toList_toArray]
              generalize wr.setCells w.heap.size 0 (ints .u8 (cN W)) = w9 at *
              go_wp2
              refine bodyPost_ret (v := .agg (ints .u8 (cN W)).toArray) ?_ rfl ⟨by rw [HS1.out, HWE.out], hB2⟩
              exact results_cell_row rfl _ _ w.heap.size 25 (ints .u8 (cN W)).toArray (0, 0) _ rfl hA2 rfl rfl (by rw [List.size_toArray, hl1]; rfl)
    · have d1 : ((rm : Int) % 64 != 56) = true := by simp; omega
      have hlt : j + 1 ≤ (119 - rest.length % 64) % 64 := by have := HR.out.2; omega
      have HLT := Aside0.mk hlt
      clear hx hm hmj hrm hj hlt
      go_wp2_with (first | ((with_reducible refine gate_dst (N := 23) rfl ?_); refine print_append_num (w0 := w2) w2.heap.size rfl (.tmp 21) (.tmp 22) 22 5 .u8 1 rfl rfl rfl (by omega) (.slice A3 m k3) (cN (pad1 j)) 0 rfl rfl HO'.out HP.out HP.out.size HL1.out ?_; intro v4 w4 ho4 hb4 hg4 hat4; clear hg4 hat4; obtain ⟨A4, k4, ev4⟩ := own_slice ho4; obtain ⟨m4, hm4⟩ : ∃ m4, m4 = (cN (pad1 j) ++ [0]).length := ⟨_, rfl⟩; rw [← hm4] at ev4; subst ev4; have HO4 := Aside0.mk ho4; have HP4 := Aside0.mk hb4; have HM4 := Aside0.mk hm4; clear ho4 hb4 hm4))
      have ho4 := HO4.out
      have hm4 := HM4.out
      have e0 : cN (pad1 j) ++ [0] = cN (pad1 (j + 1)) := by rw [← pad1_succ, cN_append]; rfl
      rw [e0] at ho4 hm4
      refine ⟨⟨j + 1, HLT.out, Aside0.mk ho4, HP4⟩, ?_⟩
      have h1 : m4 = j + 2 := by rw [hm4, cN_length, pad1_length]
      have h2 := HM.out.2.1
      have h3 := HLT.out
      show 64 - m4 < 64 - m
      omega
end Go.Proofs.Ytinjhmmbndonhaa.PShaSums
