/- What the proof of NonceLists is made of, part 17. -/
import Derived.Test.YtojlhmmmiebbmaaZNonceLists16
import Derived.Test.YtojlhmmmiebbmaaZNonceLists12
namespace Go.Proofs.Ytojlhmmmiebbmaa.PNonceLists
open Go.RowKit Go.Proofs.YtojlhmmmiebbmaaW.PrintWords Go.Proofs.YtojlhmmmiebbmaaW.PrintLast Go.Proofs.YtojlhmmmiebbmaaW.PrintMore Go.Proofs.Ytojlhmmmiebbmaa.Sha Go.Proofs.Ytojlhmmmiebbmaa.Arr
attribute [local go_sem] max2_int min2_int max_two min_two max_three min_three max_four min_four
attribute [local go_sem high] u8_w
set_option linter.unusedVariables false
set_option linter.unusedSimpArgs false
set_option maxHeartbeats 80000000 in
set_option maxRecDepth 100000 in
theorem rsum_calls (A0 : Option Addr) (k0 : Nat) (xs : List Nat) (w : World) (hr : Kd.C (Kd.int .u8) w A0 (cN xs).length (cN xs)) (hx : Bs xs) (hl : xs.length ≤ 1000000000) :
    Calls Try.prog 51 #[.slice A0 (cN xs).length k0] w fun e w' => e = .returned (.agg (ints .u8 (cN (sum xs))).toArray) ∧ Below w.heap.size w w' := by
  obtain ⟨m, hm⟩ : ∃ m, m = (cN xs).length := ⟨_, rfl⟩
  have HR := Aside0.mk hr
  have HX := Aside0.mk (And.intro hx (And.intro hl hm))
  have HMN : Aside0 (m = xs.length) := Aside0.mk (by rw [hm, cN_length])
  rw [← hm]
  clear hr hx hl hm
  go_enter Try.func51, Try.ntmps51
  go_upto_region 1 with (fail)
  refine wp_at (w2 := (w.alloc (.cells (ints .u8 (cN z32)).toArray 26))) rfl ?_
  have HA0 : Aside0 (Arr .u8 26 (w.alloc (.cells (ints .u8 (cN z32)).toArray 26)) w.heap.size (cN z32)) := Aside0.mk (Arr.new w .u8 _ _)
  have HB0 : Aside0 (Below w.heap.size w (w.alloc (.cells (ints .u8 (cN z32)).toArray 26))) := Aside0.mk (below_alloc (Below.refl _ _) _)
  have HS0 : Aside0 ((w.alloc (.cells (ints .u8 (cN z32)).toArray 26)).heap.size = w.heap.size + 1) := Aside0.mk (by simp)
  generalize w.alloc (.cells (ints .u8 (cN z32)).toArray 26) = w1 at *
  have HO1 : Aside0 ((w1.alloc (.cells #[] 5)).ownsRow w1.heap.size 5 1 (.slice (some ⟨w1.heap.size, 0, none⟩) 0 0) ([] : List Int).length (nums .u8 [])) := Aside0.mk (own_lit w1 w1.heap.size 5 .u8 [] (Nat.le_refl _) (by simp))
  have HP1 : Aside0 (Below w1.heap.size w1 (w1.alloc (.cells #[] 5))) := Aside0.mk (below_alloc (Below.refl _ _) _)
  have HQ1 : Aside0 (ReadsInt (w1.alloc (.cells #[] 5)) .u8 A0 m (cN xs)) := Aside0.mk (by rw [HX.out.2.2]; exact reads_of .u8 (Kd.C_below HR.out (HB0.out.trans (HP1.out.mono HB0.out.size))))
  have hl1 : (([] : List Int).length + m) * 1 ≤ 140737488355328 := by have := HX.out.2.1; have := HMN.out; show (0 + m) * 1 ≤ _; omega
  have HL1 : Aside0 (((cN xs).length + 1) * 1 ≤ 140737488355328) := Aside0.mk (by have := HX.out.2.1; rw [cN_length]; omega)
  go_wp2_with (first
    | ((with_reducible refine gate_dst (N := 28) rfl ?_); refine print_append_row (w0 := w1) w1.heap.size rfl (.tmp 26) (.tmp 27) 40 5 .u8 1 rfl rfl rfl (by omega) (.slice (some ⟨w1.heap.size, 0, none⟩) 0 0) [] (cN xs) A0 m k0 rfl rfl HO1.out HQ1.out HP1.out HP1.out.size hl1 ?_; intro v2 w2 ho hb hg hat; clear hg hat; rw [List.nil_append] at ho; have HO2 := Aside0.mk ho; have HP2 := Aside0.mk hb; clear ho hb HO1 HQ1 hl1 HP1)
    | ((with_reducible refine gate_dst (N := 31) rfl ?_); refine print_append_num (w0 := w1) w1.heap.size rfl (.tmp 29) (.tmp 30) 40 5 .u8 1 rfl rfl rfl (by omega) v2 (cN xs) 128 rfl rfl HO2.out HP2.out HP2.out.size HL1.out ?_; intro v3 w3 ho hb hg hat; clear hg hat; have HO3 := Aside0.mk ho; have HP3 := Aside0.mk hb; clear ho hb HO2 HP2))
  have HO3 : Aside0 (w3.ownsRow w1.heap.size 5 1 v3 (cN (xs ++ pad1 0)).length (nums .u8 (cN (xs ++ pad1 0)))) := Aside0.mk (by have h := HO3.out; rw [show cN xs ++ [(128 : Int)] = cN (xs ++ pad1 0) by rw [cN_append]; rfl] at h; exact h)
  go_loopw [3] (fun vv wr => ∃ j : Nat, j ≤ (119 - xs.length % 64) % 64 ∧ Aside0 (wr.ownsRow w1.heap.size 5 1 vv (cN (xs ++ pad1 j)).length (nums .u8 (cN (xs ++ pad1 j)))) ∧ Aside0 (Below w1.heap.size w1 wr))
    (fun vv _ => xs.length + 128 - (match vv with | .slice _ m _ => m | _ => 0))
  case atStart => exact ⟨0, Nat.zero_le _, HO3, HP3⟩
  case round =>
    clear HO3 HP3
    obtain ⟨j, hj, HO, HP⟩ := hrel
    obtain ⟨A3, k3, rfl⟩ := own_slice HO.out
    obtain ⟨n, hn⟩ : ∃ n, n = (cN (xs ++ pad1 j)).length := ⟨_, rfl⟩
    have hnj : n = m + j + 1 := by rw [hn, cN_length, List.length_append, pad1_length, HMN.out]; omega
    rw [← hn]
    have HN := Aside0.mk (And.intro hn hnj)
    have HO' : Aside0 (wr.ownsRow w1.heap.size 5 1 (.slice A3 n k3) (cN (xs ++ pad1 j)).length (nums .u8 (cN (xs ++ pad1 j)))) := Aside0.mk (by rw [hn]; exact HO.out)
    have HJ := Aside0.mk hj
    have HL2 : Aside0 (((cN (xs ++ pad1 j)).length + 1) * 1 ≤ 140737488355328) := Aside0.mk (by have := HX.out.2.1; have := HMN.out; rw [← hn]; omega)
    clear HO
    by_cases hx : n % 64 = 56
    · have d1 : ((n : Int) % 64 != 56) = false := by simp; omega
      have HJJ : Aside0 (j = (119 - xs.length % 64) % 64) := Aside0.mk (by have := HMN.out; omega)
      clear hx hn hnj hj HL1 HL2
      obtain ⟨N8, hN8⟩ : ∃ N8, N8 = 8 * xs.length := ⟨_, rfl⟩
      have q8 : IntKind.u64.wrap (8 * IntKind.u64.wrap (m : Int)) = (N8 : Int) := by have := HX.out.2.1; have := HMN.out; rw [IntKind.wrap_u64, IntKind.wrap_u64]; omega
      have HN8 := Aside0.mk hN8
      clear hN8
      go_wp2
      obtain ⟨wb, hwb⟩ : ∃ x, x = wr := ⟨_, rfl⟩
      subst hwb
      have HOT : Aside0 (wb.ownsRow w1.heap.size 5 1 (.slice A3 n k3) (cN (xs ++ pad1 ((119 - xs.length % 64) % 64))).length (nums .u8 (cN (xs ++ pad1 ((119 - xs.length % 64) % 64))))) := Aside0.mk (by have h := HO'.out; rw [HJJ.out] at h; exact h)
      have HNN : Aside0 (n = (cN (xs ++ pad1 ((119 - xs.length % 64) % 64))).length) := Aside0.mk (by have h := HN.out.1; rw [HJJ.out] at h; exact h)
      have HTL : Aside0 (xs.length + 1 + (119 - xs.length % 64) % 64 ≤ 1000000200) := Aside0.mk (by have := HX.out.2.1; omega)
      clear q8 d1 HO' HN HJ HJJ
      generalize hPd : xs ++ pad1 ((119 - xs.length % 64) % 64) = Pd at *
      have HPD := Aside0.mk hPd
      clear hPd
      go_loopw [4, 5, 6] (fun vn vs vi wr => ∃ i : Nat, i ≤ 8 ∧ vi = .int .i64 (i : Int) ∧ vn = .int .u64 ((N8 / 256 ^ i : Nat) : Int) ∧ Aside0 (wr.ownsRow wb.heap.size 5 1 vs (cN ((lens xs.length 8).drop (8 - i))).length (nums .u8 (cN ((lens xs.length 8).drop (8 - i))))) ∧ Aside0 (Below wb.heap.size wb wr))
        (fun vn vs vi _ => 8 - (intOf vi).toNat)
      case atStart => exact ⟨0, by omega, rfl, by simp, Aside0.mk (own_none _), Aside0.mk (Below.refl _ _)⟩
      case round =>
        obtain ⟨i, hi, rfl, rfl, HO, HQ⟩ := hrel
        obtain ⟨A7, k7, rfl⟩ := own_slice HO.out
        obtain ⟨m7, hm7⟩ : ∃ m, m = (cN ((lens xs.length 8).drop (8 - i))).length := ⟨_, rfl⟩
        rw [← hm7]
        have HO7 : Aside0 (wr.ownsRow wb.heap.size 5 1 (.slice A7 m7 k7) (cN ((lens xs.length 8).drop (8 - i))).length (nums .u8 (cN ((lens xs.length 8).drop (8 - i))))) := Aside0.mk (by rw [hm7]; exact HO.out)
        have HM7 := Aside0.mk hm7
        clear HO
        by_cases hx : i < 8
        · have t1 : (i : Int) < 8 := by omega
          obtain ⟨q, hq⟩ : ∃ q, q = N8 / 256 ^ i := ⟨_, rfl⟩
          obtain ⟨x, hxx⟩ : ∃ x, x = q % 256 := ⟨_, rfl⟩
          obtain ⟨q2, hq2⟩ : ∃ x, x = q / 256 := ⟨_, rfl⟩
          rw [← hq]
          have e1 : (q : Int) % 256 = (x : Int) := by omega
          have e2 : (x : Int) % 256 = (x : Int) := by omega
          have e3 : (q : Int) / 256 = (q2 : Int) := by omega
          have e4 : IntKind.u64.wrap (q2 : Int) = (q2 : Int) := by have h1 : q ≤ N8 := (by rw [hq]; exact Nat.div_le_self _ _); have := HN8.out; have := HX.out.2.1; rw [IntKind.wrap_u64]; omega
          have HXX := Aside0.mk (And.intro hq (And.intro hxx hq2))
          have HI := Aside0.mk hx
          clear hx hi hm7 hq hxx hq2
          have HOL : Aside0 ((wr.alloc (.cells #[.int .u8 (x : Int)] 5)).ownsRow wb.heap.size 5 1 (.slice (some ⟨wr.heap.size, 0, none⟩) 1 1) (cN [x]).length (nums .u8 (cN [x]))) := Aside0.mk (own_lit wr wb.heap.size 5 .u8 (cN [x]) HQ.out.size (show (1 : Nat) ≤ _ by decide))
          have HQL : Aside0 (Below wb.heap.size wb (wr.alloc (.cells #[.int .u8 (x : Int)] 5))) := Aside0.mk (below_alloc HQ.out _)
          have HRL : Aside0 (ReadsInt (wr.alloc (.cells #[.int .u8 (x : Int)] 5)) .u8 A7 m7 (cN ((lens xs.length 8).drop (8 - i)))) := Aside0.mk (by
            have hb : Below wr.heap.size wr (wr.alloc (.cells #[.int .u8 (x : Int)] 5)) := below_alloc (Below.refl _ _) _
            have h := reads_of .u8 (own_C (own_move HO7.out (w1 := wr.alloc (.cells #[.int .u8 (x : Int)] 5)) (fun q hq => hb.block q (own_lt HO7.out q hq))))
            rwa [← HM7.out] at h)
          have hl7 : (([(x : Int)] : List Int).length + m7) * 1 ≤ 140737488355328 := by have := HM7.out; rw [cN_length, List.length_drop, lens_length] at this; show (1 + m7) * 1 ≤ _; omega
          go_wp2_with (first
            | ((with_reducible refine gate_dst (N := 52) rfl ?_); refine print_append_row (w0 := wb) wb.heap.size rfl (.tmp 50) (.tmp 51) 40 5 .u8 1 rfl rfl rfl (by omega) (.slice (some ⟨wr.heap.size, 0, none⟩) 1 1) (cN [x]) (cN ((lens xs.length 8).drop (8 - i))) A7 m7 k7 rfl rfl HOL.out HRL.out HQL.out HQL.out.size hl7 ?_; intro v8 w8 ho hb hg hat; clear hg hat; have HO8 := Aside0.mk ho; have HQ8 := Aside0.mk hb; clear ho hb))
          have ho8 := HO8.out
          have hx8 := HI.out
          have hN : N8 / 256 ^ i / 256 = N8 / 256 ^ (i + 1) := by rw [Nat.pow_succ, Nat.div_div_eq_div_mul]
          rw [← cN_append, show [x] ++ (lens xs.length 8).drop (8 - i) = (lens xs.length 8).drop (8 - (i + 1)) by
            rw [← lens_drop xs.length i hx8, HXX.out.2.1, HXX.out.1, HN8.out]
            unfold lenb
            rw [show 56 - 8 * (7 - i) = 8 * i by omega, Nat.pow_mul]] at ho8
          refine ⟨⟨i + 1, by omega, by rw [Int.natCast_add]; rfl, by rw [HXX.out.2.2, HXX.out.1, hN], Aside0.mk ho8, HQ8⟩, ?_⟩
          show 8 - ((i : Int) + 1).toNat < 8 - (i : Int).toNat
          omega
        · have hi8 : i = 8 := by omega
          subst hi8
          clear hx hi
          rw [show ((8 : Nat) : Int) = 8 from rfl]
          have ho7 := HO7.out
          rw [Nat.sub_self, List.drop_zero] at ho7
          have HRL : Aside0 (ReadsInt wr .u8 A7 m7 (cN (lens xs.length 8))) := Aside0.mk (by
            have h := reads_of .u8 (own_C ho7)
            have h2 := HM7.out
            rw [Nat.sub_self, List.drop_zero] at h2
            rwa [← h2] at h)
          have HOT2 := Aside0.mk (own_move HOT.out (w1 := wr) (fun q hq => HQ.out.block q (own_lt HOT.out q hq)))
          have HP2 : Aside0 (Below w1.heap.size w1 wr) := Aside0.mk (HP.out.trans (HQ.out.mono HP.out.size))
          have HT : Aside0 (Pd ++ lens xs.length 8 = xs ++ pad xs.length) := Aside0.mk (by rw [← HPD.out, List.append_assoc]; show xs ++ padl xs.length xs.length = _; rw [padl_eq _ _ rfl])
          have hl9 : ((cN Pd).length + m7) * 1 ≤ 140737488355328 := by
            have h1 := HM7.out
            have h2 := HTL.out
            have h3 : (cN Pd).length = xs.length + 1 + (119 - xs.length % 64) % 64 := by rw [← HPD.out, cN_length, List.length_append, pad1_length]; omega
            rw [cN_length, List.length_drop, lens_length] at h1
            omega
          clear HO7 HM7 ho7 HP HQ HOT HN8
          go_upto_region 14 with (first
            | ((with_reducible refine gate_dst (N := 57) rfl ?_); refine print_append_row (w0 := w1) w1.heap.size rfl (.tmp 55) (.tmp 56) 40 5 .u8 1 rfl rfl rfl (by omega) (.slice A3 n k3) (cN Pd) (cN (lens xs.length 8)) A7 m7 k7 rfl rfl HOT2.out HRL.out HP2.out HP2.out.size hl9 ?_; intro v9 w9 ho hb hg hat; clear hg hat; rw [← cN_append] at ho; have HO9 := Aside0.mk ho; have HP9 := Aside0.mk hb; clear ho hb HOT2 HRL HP2 hl9))
          refine wp_at (w2 := w9.alloc (.cells (ints .u32 (cN IV.list)).toArray 79)) rfl ?_
          obtain ⟨A9, k9, rfl⟩ := own_slice HO9.out
          have HA10 : Aside0 (Arr .u32 79 (w9.alloc (.cells (ints .u32 (cN IV.list)).toArray 79)) w9.heap.size (cN IV.list)) := Aside0.mk (Arr.new w9 .u32 _ _)
          have hb10 : Below w9.heap.size w9 (w9.alloc (.cells (ints .u32 (cN IV.list)).toArray 79)) := below_alloc (Below.refl _ _) _
          have HO10 := Aside0.mk (own_move HO9.out (w1 := w9.alloc (.cells (ints .u32 (cN IV.list)).toArray 79)) (fun q hq => hb10.block q (own_lt HO9.out q hq)))
          have HP10 : Aside0 (Below w1.heap.size w1 (w9.alloc (.cells (ints .u32 (cN IV.list)).toArray 79))) := Aside0.mk (HP9.out.trans (hb10.mono HP9.out.size))
          have HTG : Aside0 (∀ ad, A9 = some ad → ad.block < w9.heap.size) := Aside0.mk (fun ad e => own_lt HO9.out ad.block (by rw [e]; rfl))
          have HG9 : Aside0 (w1.heap.size ≤ w9.heap.size) := Aside0.mk HP9.out.size
          obtain ⟨T, hT⟩ : ∃ T, T = Pd ++ lens xs.length 8 := ⟨_, rfl⟩
          rw [← hT]
          have HO10 : Aside0 (World.ownsRow (w9.alloc (.cells (ints .u32 (cN IV.list)).toArray 79)) w1.heap.size 5 1 (.slice A9 (cN T).length k9) (cN T).length (nums .u8 (cN T))) := Aside0.mk (by have h := HO10.out; rw [← hT] at h; exact h)
          have HT : Aside0 (T = xs ++ pad xs.length) := Aside0.mk (by rw [hT]; exact HT.out)
          have HT8 : Aside0 (Bs T) := Aside0.mk (by rw [hT, ← HPD.out]; exact (HX.out.1.append (Bs.pad1 _)).append (Bs.lens _ _))
          have hTn : T.length = xs.length + 1 + (119 - xs.length % 64) % 64 + 8 := by rw [hT, ← HPD.out, List.length_append, List.length_append, pad1_length, lens_length]; omega
          obtain ⟨nb, hnb⟩ : ∃ nb, T.length = 64 * nb := ⟨T.length / 64, by omega⟩
          obtain ⟨tn, htn⟩ : ∃ tn, tn = (cN T).length := ⟨_, rfl⟩
          have HTN : Aside0 (tn = T.length ∧ T.length = 64 * nb ∧ tn = (cN T).length ∧ tn ≤ 1000001000) := Aside0.mk ⟨by rw [htn, cN_length], hnb, htn, by have := HX.out.2.1; rw [htn, cN_length]; omega⟩
          have HTC : Aside0 (Kd.C (Kd.int .u8) (w9.alloc (.cells (ints .u32 (cN IV.list)).toArray 79)) A9 (cN T).length (cN T)) := Aside0.mk (own_C HO10.out)
          rw [← htn]
          clear hb10 HO9 HP9 HO10 hT hTn hnb htn HPD HTL HNN
          generalize w9.alloc (.cells (ints .u32 (cN IV.list)).toArray 79) = w10 at *
          generalize w9.heap.size = gh at *
          go_wp2_with fail
          refine (clapperref03_constants.calls (cN Ks) w10 rfl).mono ?_
          rintro e w11 ⟨vk, rfl, hRk, hB11⟩
          have hOk := Kd.own_of_R hRk
          obtain ⟨Ak, kk, rfl⟩ := own_slice hOk
          obtain ⟨gk, rfl⟩ : ∃ g, Ak = some ⟨g, 0, none⟩ := by
            rcases hOk.2 with ⟨e, h0⟩ | ⟨b0, cap, cur, e, _⟩
            · exact absurd h0 (by decide)
            · injection e with e1 e2 e3
              exact ⟨b0, e1⟩
          have hcK : ∀ j, j < 64 → w11.cell? ⟨gk, j, none⟩ = some (.int .u32 (Ks.getD j 0 : Nat)) := by
            intro j hj
            have h := (own_at hOk (j : Int) (by omega) (by show (j : Int) < ((64 : Nat) : Int); omega)).1
            rw [Int.toNat_natCast, rd_cN] at h
            exact h
          have hgk : w10.heap.size ≤ gk ∧ gk < w11.heap.size := ⟨own_base hOk gk rfl, own_lt hOk gk rfl⟩
          rw [show (cN Ks).length = 64 from rfl]
          have HCK := Aside0.mk hcK
          have HGK := Aside0.mk hgk
          have HA11 := Aside0.mk (HA10.out.below hB11 HA10.out.size)
          have HTC11 := Aside0.mk (Kd.C_below HTC.out hB11)
          have HG10 : Aside0 (gh < w10.heap.size) := Aside0.mk HA10.out.size
          have HP11 : Aside0 (Below w1.heap.size w1 w11) := Aside0.mk (HP10.out.trans (hB11.mono HP10.out.size))
          clear hcK hgk hRk hOk hB11 HA10 HP10 HTC
          go_wp2
          go_loopw [9] (fun v wr => ∃ i : Nat, i ≤ nb ∧ v = .int .i64 ((64 * i : Nat) : Int) ∧ Aside0 (Arr .u32 79 wr gh (cN (blocks IV T i).list)) ∧ Aside0 (But w11.heap.size gh w11 wr))
            (fun v _ => tn - (intOf v).toNat)
          case atStart => exact ⟨0, Nat.zero_le _, rfl, HA11, Aside0.mk (But.of (Below.refl _ _))⟩
          case round =>
            clear HA11
            obtain ⟨i, hi, rfl, HAr, HBr⟩ := hrel
            obtain ⟨wb, hwb⟩ : ∃ x, x = wr := ⟨_, rfl⟩
            subst hwb
            obtain ⟨ai, hai⟩ : ∃ a, a = 64 * i := ⟨_, rfl⟩
            rw [← hai]
            have HAI := Aside0.mk hai
            by_cases hx : i < nb
            · have t1 : (ai : Int) < (tn : Int) := by have := HTN.out; omega
              have HI := Aside0.mk hx
              clear hx hi hai
              go_wp2
              have HTb := Aside0.mk (C_but HBr.out HTC11.out (fun ad e _ => by have := HTG.out ad e; omega))
              obtain ⟨B, hB⟩ : ∃ B, B = (T.drop (64 * i)).take 64 := ⟨_, rfl⟩
              have HBl : Aside0 (∀ j, j < 64 → B.getD j 0 = T.getD (ai + j) 0) := Aside0.mk (by
                intro j hj
                rw [hB, HAI.out, List.getD_eq_getElem?_getD, List.getD_eq_getElem?_getD, List.getElem?_take, if_pos hj, List.getElem?_drop])
              have HB := Aside0.mk hB
              clear hB t1
              go_loopw [10, 11] (fun vw vt wr => ∃ t : Nat, t ≤ 64 ∧ vt = .int .i64 (t : Int) ∧ Aside0 (wr.ownsRow wb.heap.size 79 1 vw (cN (wds B t)).length (nums .u32 (cN (wds B t)))) ∧ Aside0 (Below wb.heap.size wb wr))
                (fun _ vt _ => 64 - (intOf vt).toNat)
              case atStart => exact ⟨0, by omega, rfl, Aside0.mk (own_none _), Aside0.mk (Below.refl _ _)⟩
              case round =>
                obtain ⟨t, ht, rfl, HO, HQ⟩ := hrel
                obtain ⟨A6, k6, rfl⟩ := own_slice HO.out
                obtain ⟨m6, hm6⟩ : ∃ m, m = (cN (wds B t)).length := ⟨_, rfl⟩
                have hm6' : m6 = t := by rw [hm6, cN_length, wds_length]
                rw [← hm6]
                have HO6 : Aside0 (wr.ownsRow wb.heap.size 79 1 (.slice A6 m6 k6) (cN (wds B t)).length (nums .u32 (cN (wds B t)))) := Aside0.mk (by rw [hm6]; exact HO.out)
                have hl6 : ((cN (wds B t)).length + 1) * 4 ≤ 140737488355328 := by omega
                have HM6 := Aside0.mk (And.intro hm6 hm6')
                clear HO hm6 hm6'
                by_cases hlt : t < 16
                · have HLT : Aside0 (t < 64) := Aside0.mk (by omega)
                  refine word_lo _ _ wb wr A9 A6 _ k6 tn ai m6 t i nb T B _ _ _ _ _ _ _ _ _ _ _ _ _ _ _ _ _ _ _ _ _ _ _ _ _ _ _ _ _ _ _ _ _ _ _ _ _ _ _ _ _ _ _ _ _ _ _ _ _ _ _ _ _ _ _ _ _ _ _ _ _ _ _ _ _ _ _ _ _ _ _ _ _ _ _ _ _ _ _ _ _ _ _ _ _ _ _ _ _ _ _ _ _ _ _ _ _ _ _ _ _ _ _ _ _ _ _ _ _ _ _ _ _ _ _ _ _ _ _ _ _ _ _ _ _ _ _ _ _ _ _ _ _ _ _ _ _ _ _ _ _ _ _ _ _ _ _ _ _ _ _ _ _ _ _ _ _ _ _ _ _ _ _ _ _ _ _ _ _ _ _ _ _ _ _ _ _ _ _ _ _ _ _ _ _ _ _ _ _ _ _ _ _ _ _ _ _ _ _ _ _ _ _ _ _ _ _ _ _ _ _ _ _ _ _ _ _ _ _ _ _ _ _ _ _ _ _ _ _ _ _ _ _ _ _ _ _ _ _ _ _ _ _ _ _ _ _ _ _ _ _ _ _ _ _ _ _ _ _ _ _ _ _ _ _ _ _ _ _ _ _ _ _ _ _ _ _ _ _ _ _ _ _ _ _ _ _ _ _ _ _ _ _ _ _ _ _ _ _ _ _ _ _ _ _ _ _ _ _ _ _ _ _ _ _ _ _ _ _ _ _ _ _ _ _ _ _ _ _ HTN HAI HI HT8 HTb HB HBl HO6 hl6 HM6 HQ ht hlt (Aside0.mk (by intro _ a_ d_ _ _ h; cases d_ <;> exact h)) (Aside0.mk ?_)
                  intros
                  rename_i v8 w8 e1 e2
                  have HO9 := Aside0.mk e1
                  have HQ8 := Aside0.mk e2
                  clear e1 e2 HO6 hl6 HM6 HQ ht hlt
                  go_wp2
                  refine ⟨⟨t + 1, ?_, ?_, ?_, ?_⟩, ?_⟩
                  · exact lt64 HLT.out
                  · rw [Int.natCast_add]; rfl
                  · exact HO9
                  · exact HQ8
                  · exact meas64 HLT.out
                · by_cases h64 : t < 64
                  · have HLT : Aside0 (t < 64) := Aside0.mk (by omega)
                    refine word_hi _ _ wb wr A9 A6 _ k6 tn ai m6 t i nb T B _ _ _ _ _ _ _ _ _ _ _ _ _ _ _ _ _ _ _ _ _ _ _ _ _ _ _ _ _ _ _ _ _ _ _ _ _ _ _ _ _ _ _ _ _ _ _ _ _ _ _ _ _ _ _ _ _ _ _ _ _ _ _ _ _ _ _ _ _ _ _ _ _ _ _ _ _ _ _ _ _ _ _ _ _ _ _ _ _ _ _ _ _ _ _ _ _ _ _ _ _ _ _ _ _ _ _ _ _ _ _ _ _ _ _ _ _ _ _ _ _ _ _ _ _ _ _ _ _ _ _ _ _ _ _ _ _ _ _ _ _ _ _ _ _ _ _ _ _ _ _ _ _ _ _ _ _ _ _ _ _ _ _ _ _ _ _ _ _ _ _ _ _ _ _ _ _ _ _ _ _ _ _ _ _ _ _ _ _ _ _ _ _ _ _ _ _ _ _ _ _ _ _ _ _ _ _ _ _ _ _ _ _ _ _ _ _ _ _ _ _ _ _ _ _ _ _ _ _ _ _ _ _ _ _ _ _ _ _ _ _ _ _ _ _ _ _ _ _ _ _ _ _ _ _ _ _ _ _ _ _ _ _ _ _ _ _ _ _ _ _ _ _ _ _ _ _ _ _ _ _ _ _ _ _ _ _ _ _ _ _ _ _ _ _ _ _ _ _ _ _ _ _ _ _ _ _ _ _ _ _ _ _ _ _ _ _ _ _ _ _ _ _ _ _ _ _ _ _ HTN HAI HI HT8 HTb HB HBl HO6 hl6 HM6 HQ ht hlt h64 (Aside0.mk (by intro _ a_ d_ _ _ h; cases d_ <;> exact h)) (Aside0.mk ?_)
                    intros
                    rename_i v8 w8 e1 e2
                    have HO9 := Aside0.mk e1
                    have HQ8 := Aside0.mk e2
                    clear e1 e2 HO6 hl6 HM6 HQ ht hlt h64
                    go_wp2
                    refine ⟨⟨t + 1, ?_, ?_, ?_, ?_⟩, ?_⟩
                    · exact lt64 HLT.out
                    · rw [Int.natCast_add]; rfl
                    · exact HO9
                    · exact HQ8
                    · exact meas64 HLT.out
                  · have h64' : t = 64 := by omega
                    subst h64'
                    obtain rfl : m6 = 64 := HM6.out.2
                    obtain ⟨gw, rfl⟩ : ∃ g, A6 = some ⟨g, 0, none⟩ := by
                      rcases HO6.out.2 with ⟨e, h0⟩ | ⟨b0, cap, cur, e, _⟩
                      · have := HM6.out; omega
                      · injection e with e1 e2 e3
                        exact ⟨b0, e1⟩
                    obtain ⟨WL, hWL⟩ : ∃ l, l = wl B 48 := ⟨_, rfl⟩
                    have hbs : ∀ j, B.getD j 0 < 256 := by rw [HB.out]; exact (HT8.out.drop _).take _
                    have HWLl : Aside0 (∀ j, WL.getD j 0 < 4294967296) := Aside0.mk (fun j => by rw [hWL]; exact wl_lt B hbs 48 j)
                    have hcw : ∀ j, j < 64 → wr.cell? ⟨gw, j, none⟩ = some (.int .u32 (WL.getD j 0 : Nat)) := by
                      intro j hj
                      have h := (own_at (by have h := HO6.out; rw [← HM6.out.1] at h; exact h) (j : Int) (by omega) (by have := HM6.out; omega)).1
                      rw [Int.toNat_natCast, rd_cN, wds_64, ← hWL] at h
                      exact h
                    have HCW := Aside0.mk hcw
                    have HGW : Aside0 (gw < wr.heap.size) := Aside0.mk (own_lt HO6.out gw rfl)
                    have HWB : Aside0 (WL = wl B 48) := Aside0.mk hWL
                    have HCK2 : Aside0 (∀ j, j < 64 → wr.cell? ⟨gk, j, none⟩ = some (.int .u32 (Ks.getD j 0 : Nat))) := Aside0.mk (fun j hj => by
                      have h1 := But.cell HBr.out HGK.out.2 (by have := HGK.out.1; have := HG10.out; omega) (HCK.out j hj)
                      exact (HQ.out.cell (p := ⟨gk, j, none⟩) (Nat.lt_of_lt_of_le HGK.out.2 HBr.out.size)).trans h1)
                    have HGK2 : Aside0 (gk < wr.heap.size) := Aside0.mk (Nat.lt_of_lt_of_le HGK.out.2 (Nat.le_trans HBr.out.size HQ.out.size))
                    obtain ⟨st, hst⟩ : ∃ s, s = blocks IV T i := ⟨_, rfl⟩
                    have HST := Aside0.mk hst
                    have HSK : Aside0 (okH st) := Aside0.mk (by rw [hst]; exact blocks_ok _ _ iv_ok _)
                    have HAr2 : Aside0 (Arr .u32 79 wr gh (cN st.list)) := Aside0.mk (by rw [hst]; exact HAr.out.below HQ.out HAr.out.size)
                    have HBw : Aside0 (But w11.heap.size gh w11 wr) := Aside0.mk (HBr.out.trans (But.of (HQ.out.mono HBr.out.size)))
                    have HGH : Aside0 (gh < wr.heap.size) := Aside0.mk HAr2.out.size
                    clear hWL hbs hcw hst HO6 HM6 HQ hl6 h64 hlt ht HAr HBr HTb HBl
                    rw [show ((64 : Nat) : Int) = 64 from rfl]
                    have HO1 : Aside0 ((wr.alloc (.cells #[] 79)).ownsRow wr.heap.size 79 1 (.slice (some ⟨wr.heap.size, 0, none⟩) 0 0) ([] : List Int).length (nums .u32 [])) := Aside0.mk (own_lit wr wr.heap.size 79 .u32 [] (Nat.le_refl _) (by simp))
                    have HP1 : Aside0 (Below wr.heap.size wr (wr.alloc (.cells #[] 79))) := Aside0.mk (below_alloc (Below.refl _ _) _)
                    have HQ1 : Aside0 (ReadsInt (wr.alloc (.cells #[] 79)) .u32 (some ⟨gh, 0, none⟩) 8 (cN st.list)) := Aside0.mk (arr_reads (HAr2.out.below HP1.out HAr2.out.size) (show (8 : Nat) ≤ _ by decide))
                    obtain ⟨wc, hwc⟩ : ∃ x, x = wr := ⟨_, rfl⟩
                    subst hwc
                    go_wp2_with (first
                      | ((with_reducible refine gate_dst (N := 154) rfl ?_); refine print_append_row (w0 := wc) wc.heap.size rfl (.tmp 152) (.tmp 153) 97 79 .u32 4 rfl rfl rfl (by omega) (.slice (some ⟨wc.heap.size, 0, none⟩) 0 0) [] (cN st.list) (some ⟨gh, 0, none⟩) 8 8 rfl rfl HO1.out HQ1.out HP1.out HP1.out.size (by decide) ?_; intro v17 w17 ho hb hg hat; clear hg hat; rw [List.nil_append] at ho; have HO17 := Aside0.mk ho; have HP17 := Aside0.mk hb; clear ho hb HO1 HQ1 HP1))
                    obtain ⟨A17, k17, rfl⟩ := own_slice HO17.out
                    obtain ⟨g17, rfl⟩ : ∃ g, A17 = some ⟨g, 0, none⟩ := by
                      rcases HO17.out.2 with ⟨e, h0⟩ | ⟨b0, cap, cur, e, _⟩
                      · exact absurd h0 (show ¬ (8 : Nat) = 0 by decide)
                      · injection e with e1 e2 e3
                        exact ⟨b0, e1⟩
                    have hc17 : ∀ j, j < 8 → w17.cell? ⟨g17, j, none⟩ = some (.int .u32 (st.list.getD j 0 : Nat)) := by
                      intro j hj
                      have h := (own_at HO17.out (j : Int) (by omega) (show (j : Int) < ((8 : Nat) : Int) by omega)).1
                      rw [Int.toNat_natCast, rd_cN] at h
                      exact h
                    have HC17 := Aside0.mk hc17
                    have HG17 : Aside0 (wc.heap.size ≤ g17) := Aside0.mk (own_base HO17.out g17 rfl)
                    have HL17 : Aside0 (g17 < w17.heap.size) := Aside0.mk (own_lt HO17.out g17 rfl)
                    have HCW17 : Aside0 (∀ j, j < 64 → w17.cell? ⟨gw, j, none⟩ = some (.int .u32 (WL.getD j 0 : Nat))) := Aside0.mk (fun j hj => (HP17.out.cell (p := ⟨gw, j, none⟩) HGW.out).trans (HCW.out j hj))
                    have HCK17 : Aside0 (∀ j, j < 64 → w17.cell? ⟨gk, j, none⟩ = some (.int .u32 (Ks.getD j 0 : Nat))) := Aside0.mk (fun j hj => (HP17.out.cell (p := ⟨gk, j, none⟩) HGK2.out).trans (HCK2.out j hj))
                    rw [show (cN st.list).length = 8 from rfl]
                    have HZ17 : Aside0 (wc.heap.size ≤ w17.heap.size) := Aside0.mk HP17.out.size
                    clear hc17 HO17 HCW HCK2
                    go_loopw [17, 18] (fun vs vt wr => ∃ t : Nat, t ≤ 64 ∧ vt = .int .i64 (t : Int) ∧ ∃ g c : Nat, vs = .slice (some ⟨g, 0, none⟩) 8 c ∧ Aside0 (wc.heap.size ≤ g) ∧ Aside0 (g < wr.heap.size) ∧ Aside0 (∀ j, j < 8 → wr.cell? ⟨g, j, none⟩ = some (.int .u32 ((rounds st WL t).list.getD j 0 : Nat))) ∧ Aside0 (Below w17.heap.size w17 wr))
                      (fun _ vt _ => 64 - (intOf vt).toNat)
                    case atStart => exact ⟨0, by omega, rfl, g17, k17, rfl, HG17, HL17, HC17, Aside0.mk (Below.refl _ _)⟩
                    case round =>
                      clear HG17 HL17 HC17
                      obtain ⟨t, ht, rfl, g, c, rfl, HG, HL, HC, HQ⟩ := hrel
                      by_cases hlt : t < 64
                      · have t1 : (t : Int) < 64 := by omega
                        have cK := (HQ.out.cell (p := ⟨gk, t, none⟩) (Nat.lt_of_lt_of_le HGK2.out HZ17.out)).trans (HCK17.out t hlt)
                        have cW := (HQ.out.cell (p := ⟨gw, t, none⟩) (Nat.lt_of_lt_of_le HGW.out HZ17.out)).trans (HCW17.out t hlt)
                        have hcc := HC.out
                        have hok := rounds_ok st WL HSK.out t
                        have hst : rounds st WL (t + 1) = Sha.step (rounds st WL t) (Ks.getD t 0) (WL.getD t 0) := rfl
                        have lk := ks_lt t
                        have lw := HWLl.out t
                        obtain ⟨R, hR⟩ : ∃ R, rounds st WL t = R := ⟨_, rfl⟩
                        rw [hR] at hcc hok hst
                        clear hR
                        obtain ⟨kk, hX⟩ : ∃ x, Ks.getD t 0 = x := ⟨_, rfl⟩
                        rw [hX] at cK hst lk
                        clear hX
                        obtain ⟨ww, hX⟩ : ∃ x, WL.getD t 0 = x := ⟨_, rfl⟩
                        rw [hX] at cW hst lw
                        clear hX
                        obtain ⟨ta, tb, tc, td, te, tf, tg, th⟩ := R
                        have c0 : wr.cell? ⟨g, 0, none⟩ = some (.int .u32 (ta : Nat)) := hcc 0 (by decide)
                        have c1 : wr.cell? ⟨g, 1, none⟩ = some (.int .u32 (tb : Nat)) := hcc 1 (by decide)
                        have c2 : wr.cell? ⟨g, 2, none⟩ = some (.int .u32 (tc : Nat)) := hcc 2 (by decide)
                        have c3 : wr.cell? ⟨g, 3, none⟩ = some (.int .u32 (td : Nat)) := hcc 3 (by decide)
                        have c4 : wr.cell? ⟨g, 4, none⟩ = some (.int .u32 (te : Nat)) := hcc 4 (by decide)
                        have c5 : wr.cell? ⟨g, 5, none⟩ = some (.int .u32 (tf : Nat)) := hcc 5 (by decide)
                        have c6 : wr.cell? ⟨g, 6, none⟩ = some (.int .u32 (tg : Nat)) := hcc 6 (by decide)
                        have c7 : wr.cell? ⟨g, 7, none⟩ = some (.int .u32 (th : Nat)) := hcc 7 (by decide)
                        obtain ⟨oa, ob, oc, od, oe, of, og, oh⟩ := hok
                        have oa : ta < 4294967296 := oa
                        have ob : tb < 4294967296 := ob
                        have oc : tc < 4294967296 := oc
                        have oe : te < 4294967296 := oe
                        have of : tf < 4294967296 := of
                        have og : tg < 4294967296 := og
                        refine round_step _ _ w17 wr gk _ gw _ g _ t ta tb tc td te tf tg th kk ww _ _ _ _ _ _ _ _ _ _ _ _ _ _ _ _ _ _ _ _ _ _ _ _ _ _ _ _ _ _ _ _ _ _ _ _ _ _ _ _ _ _ _ _ _ _ _ _ _ _ _ _ _ _ _ _ _ _ _ _ _ _ _ _ _ _ _ _ _ _ _ _ _ _ _ _ _ _ _ _ _ _ _ _ _ _ _ _ _ _ _ _ _ _ _ _ _ _ _ _ _ _ _ _ _ _ _ _ _ _ _ _ _ _ _ _ _ _ _ _ _ _ _ _ _ _ _ _ _ _ _ _ _ _ _ _ _ _ _ _ _ _ _ _ _ _ _ _ _ _ _ _ _ _ _ _ _ _ _ _ _ _ _ _ _ _ _ _ _ _ _ _ _ _ _ _ _ _ _ _ _ _ _ _ _ _ _ _ _ _ _ _ _ _ _ _ _ _ _ _ _ _ _ _ _ _ _ _ _ _ _ _ _ _ _ _ _ _ _ _ _ _ _ _ _ _ _ _ _ _ _ _ _ _ _ _ _ _ _ _ _ _ _ _ _ _ _ _ _ _ _ _ _ _ _ _ _ _ _ _ _ _ _ _ _ _ _ _ _ _ _ _ _ _ _ _ _ _ _ _ _ _ _ _ _ _ _ _ _ _ _ _ _ _ _ _ _ _ _ _ _ _ _ _ _ _ _ _ _ _ _ _ _ _ _ _ _ _ _ _ _ _ _ _ _ _ _ _ _ cK cW c0 c1 c2 c3 c4 c5 c6 c7 oa ob oc oe of og hlt HQ (Aside0.mk (by intro _ a_ d_ _ _ h; cases d_ <;> exact h)) (Aside0.mk ?_)
                        intros
                        rename_i g7 u7 e1 e2 e3 e4
                        have HC7 : Aside0 (∀ j, j < 8 → u7.cell? ⟨g7, j, none⟩ = some (.int .u32 ((rounds st WL (t + 1)).list.getD j 0 : Nat))) := Aside0.mk (by rw [hst]; exact e1)
                        have HQ7 := Aside0.mk e2
                        have HL7 := Aside0.mk e3
                        have HG7 : Aside0 (wc.heap.size ≤ g7) := Aside0.mk (Nat.le_trans HZ17.out e4)
                        have HLT := Aside0.mk hlt
                        clear e1 e2 e3 e4 hcc hst lk lw oa ob oc od oe of og oh cK cW c0 c1 c2 c3 c4 c5 c6 c7 HC
                        go_wp2
                        refine ⟨⟨t + 1, ?_, ?_, g7, 8, ?_, ?_, ?_, ?_, ?_⟩, ?_⟩
                        · exact lt64 HLT.out
                        · rw [Int.natCast_add]; rfl
                        · rfl
                        · exact HG7
                        · exact HL7
                        · exact HC7
                        · exact HQ7
                        · exact meas64 HLT.out
                      · have h64' : t = 64 := by omega
                        subst h64'
                        have HRK : Aside0 (okH (rounds st WL 64)) := Aside0.mk (rounds_ok st WL HSK.out 64)
                        have HCO : Aside0 (st.add (rounds st WL 64) = comp st B) := Aside0.mk (by rw [HWB.out]; rfl)
                        obtain ⟨R, hR⟩ : ∃ R, rounds st WL 64 = R := ⟨_, rfl⟩
                        rw [hR] at HC HRK HCO
                        have HBx : Aside0 (But w11.heap.size gh w11 wr) := Aside0.mk (HBw.out.trans (But.of ((HP17.out.trans (HQ.out.mono HP17.out.size)).mono HBw.out.size)))
                        have HAx : Aside0 (Arr .u32 79 wr gh (cN (mixl st.list R.list 0))) := Aside0.mk (by rw [mixl_zero st.list R.list rfl]; exact HAr2.out.below (HP17.out.trans (HQ.out.mono HP17.out.size)) HGH.out)
                        have HGG : Aside0 (g ≠ gh) := Aside0.mk (by have := HG.out; have := HGH.out; omega)
                        rw [show ((64 : Nat) : Int) = 64 from rfl]
                        clear hlt ht hR HG HL HQ HBw HAr2 HCW17 HCK17 HZ17 HP17 HGK2
                        go_wp2
                        go_loopw [23] (fun vi wr => ∃ j : Nat, j ≤ 8 ∧ vi = .int .i64 (j : Int) ∧ Aside0 (∀ q, q < 8 → wr.cell? ⟨g, q, none⟩ = some (.int .u32 (R.list.getD q 0 : Nat))) ∧ Aside0 (Arr .u32 79 wr gh (cN (mixl st.list R.list j))) ∧ Aside0 (But w11.heap.size gh w11 wr))
                          (fun vi _ => 8 - (intOf vi).toNat)
                        case atStart => exact ⟨0, by omega, rfl, HC, HAx, HBx⟩
                        case round =>
                          clear HC HAx HBx
                          obtain ⟨j, hj, rfl, HC, HAx, HBx⟩ := hrel
                          by_cases hlt : j < 8
                          · have HLT := Aside0.mk hlt
                            refine add_step _ _ w11 wr gh g _ _ j st R _ _ _ _ _ _ _ _ _ _ _ _ _ _ _ _ _ _ _ _ _ _ _ _ _ _ _ _ _ _ _ _ _ _ _ _ _ _ _ _ _ _ _ _ _ _ _ _ _ _ _ _ _ _ _ _ _ _ _ _ _ _ _ _ _ _ _ _ _ _ _ _ _ _ _ _ _ _ _ _ _ _ _ _ _ _ _ _ _ _ _ _ _ _ _ _ _ _ _ _ _ _ _ _ _ _ _ _ _ _ _ _ _ _ _ _ _ _ _ _ _ _ _ _ _ _ _ _ _ _ _ _ _ _ _ _ _ _ _ _ _ _ _ _ _ _ _ _ _ _ _ _ _ _ _ _ _ _ _ _ _ _ _ _ _ _ _ _ _ _ _ _ _ _ _ _ _ _ _ _ _ _ _ _ _ _ _ _ _ _ _ _ _ _ _ _ _ _ _ _ _ _ _ _ _ _ _ _ _ _ _ _ _ _ _ _ _ _ _ _ _ _ _ _ _ _ _ _ _ _ _ _ _ _ _ _ _ _ _ _ _ _ _ _ _ _ _ _ _ _ _ _ _ _ _ _ _ _ _ _ _ _ _ _ _ _ _ _ _ _ _ _ _ _ _ _ _ _ _ _ _ _ _ _ _ _ _ _ _ _ _ _ _ _ _ _ _ _ _ _ _ _ _ _ _ _ _ _ _ _ _ _ _ _ _ _ _ _ _ _ _ _ _ _ _ _ _ _ _ _ HC HAx HBx HGG hj hlt (Aside0.mk (by intro _ a_ d_ _ _ h; cases d_ <;> exact h)) (Aside0.mk ?_)
                            intros
                            rename_i u8 e1 e2 e3
                            have HC8 := Aside0.mk e1
                            have HA8 := Aside0.mk e2
                            have HB8 := Aside0.mk e3
                            clear e1 e2 e3 HC HAx HBx hlt hj
                            go_wp2
                            refine ⟨⟨j + 1, ?_, ?_, ?_, ?_, ?_⟩, ?_⟩
                            · exact HLT.out
                            · rw [Int.natCast_add]; rfl
                            · exact HC8
                            · exact HA8
                            · exact HB8
                            · exact meas8 HLT.out
                          · have h8 : j = 8 := by omega
                            subst h8
                            have HA9 : Aside0 (Arr .u32 79 wr gh (cN (blocks IV T (i + 1)).list)) := Aside0.mk (by
                              have h := HAx.out
                              rw [mixl_eight, HCO.out] at h
                              show Arr .u32 79 wr gh (cN (comp (blocks IV T i) ((T.drop (64 * i)).take 64)).list)
                              rw [← HB.out, ← HST.out]
                              exact h)
                            have v1 := at_next ai tn HTN.out.2.2.2 (by have := HTN.out; have := HAI.out; have := HI.out; omega)
                            rw [show ((8 : Nat) : Int) = 8 from rfl]
                            clear hlt hj HAx HC
                            go_wp2
                            have hai := HAI.out
                            have hI := HI.out
                            have htn := HTN.out
                            refine ⟨⟨i + 1, ?_, ?_, ?_, ?_⟩, ?_⟩
                            · exact hI
                            · (try rw [v1]); rw [hai, at_64]
                            · exact HA9
                            · exact HBx
                            · (try rw [v1]); exact at_less ai i nb tn hai hI (htn.1.trans htn.2.1)
            · have HI : Aside0 (i = nb) := Aside0.mk (by omega)
              have t1 : (tn : Int) ≤ (ai : Int) := by have := HTN.out; omega
              clear hx hi hai
              have HSB : Aside0 (sum xs = (blocks IV T nb).bytes) := Aside0.mk (by
                have h := run_blocks nb IV T HTN.out.2.1
                unfold sum
                rw [← HT.out, h])
              obtain ⟨S, hS⟩ : ∃ S, S = blocks IV T nb := ⟨_, rfl⟩
              rw [← hS] at HSB
              have HSK : Aside0 (okH S) := Aside0.mk (by rw [hS]; exact blocks_ok _ _ iv_ok _)
              have HAs : Aside0 (Arr .u32 79 wb gh (cN S.list)) := Aside0.mk (by rw [hS, ← HI.out]; exact HAr.out)
              have HBs : Aside0 (Below w1.heap.size w1 wb) := Aside0.mk (HP11.out.trans (HBr.out.below HG9.out HP11.out.size))
              clear hS HAr HBr
              go_upto_region 44 with (fail)
              refine wp_at (w2 := wb.alloc (.cells (ints .u8 (cN z32)).toArray 26)) rfl ?_
              have HD1 : Aside0 (Arr .u8 26 (wb.alloc (.cells (ints .u8 (cN z32)).toArray 26)) wb.heap.size (cN (S.bytes.take (4 * 0) ++ List.replicate (32 - 4 * 0) 0))) := Aside0.mk (Arr.new wb .u8 _ _)
              have HE1 : Aside0 (Below wb.heap.size wb (wb.alloc (.cells (ints .u8 (cN z32)).toArray 26))) := Aside0.mk (below_alloc (Below.refl _ _) _)
              generalize wb.alloc (.cells (ints .u8 (cN z32)).toArray 26) = w12 at *
              go_wp2
              go_loopw [25] (fun vi wr => ∃ j : Nat, j ≤ 8 ∧ vi = .int .i64 (j : Int) ∧ Aside0 (Arr .u8 26 wr wb.heap.size (cN (S.bytes.take (4 * j) ++ List.replicate (32 - 4 * j) 0))) ∧ Aside0 (Below wb.heap.size wb wr))
                (fun vi _ => 8 - (intOf vi).toNat)
              case atStart => exact ⟨0, by omega, rfl, HD1, HE1⟩
              case round =>
                clear HD1 HE1
                obtain ⟨j, hj, rfl, HD, HE⟩ := hrel
                by_cases hlt : j < 8
                · have HLT := Aside0.mk hlt
                  refine out_step _ _ wb wr gh _ j S _ _ _ _ _ _ _ _ _ _ _ _ _ _ _ _ _ _ _ _ _ _ _ _ _ _ _ _ _ _ _ _ _ _ _ _ _ _ _ _ _ _ _ _ _ _ _ _ _ _ _ _ _ _ _ _ _ _ _ _ _ _ _ _ _ _ _ _ _ _ _ _ _ _ _ _ _ _ _ _ _ _ _ _ _ _ _ _ _ _ _ _ _ _ _ _ _ _ _ _ _ _ _ _ _ _ _ _ _ _ _ _ _ _ _ _ _ _ _ _ _ _ _ _ _ _ _ _ _ _ _ _ _ _ _ _ _ _ _ _ _ _ _ _ _ _ _ _ _ _ _ _ _ _ _ _ _ _ _ _ _ _ _ _ _ _ _ _ _ _ _ _ _ _ _ _ _ _ _ _ _ _ _ _ _ _ _ _ _ _ _ _ _ _ _ _ _ _ _ _ _ _ _ _ _ _ _ _ _ _ _ _ _ _ _ _ _ _ _ _ _ _ _ _ _ _ _ _ _ _ _ _ _ _ _ _ _ _ _ _ _ _ _ _ _ _ _ _ _ _ _ _ _ _ _ _ _ _ _ _ _ _ _ _ _ _ _ _ _ _ _ _ _ _ _ _ _ _ _ _ _ _ _ _ _ _ _ _ _ _ _ _ _ _ _ _ _ _ _ _ _ _ _ _ _ _ _ _ _ _ _ _ _ _ _ _ _ _ _ _ _ _ _ _ _ _ _ _ _ _ HAs HSK HD HE hj hlt (Aside0.mk (by intro _ a_ d_ _ _ h; cases d_ <;> exact h)) (Aside0.mk ?_)
                  intros
                  rename_i u4 e1 e2
                  have HD5 := Aside0.mk e1
                  have HE5 := Aside0.mk e2
                  clear e1 e2 HD HE hlt hj
                  go_wp2
                  refine ⟨⟨j + 1, ?_, ?_, ?_, ?_⟩, ?_⟩
                  · exact HLT.out
                  · rw [Int.natCast_add]; rfl
                  · exact HD5
                  · exact HE5
                  · exact meas8 HLT.out
                · have h8 : j = 8 := by omega
                  subst h8
                  have hA1 := HD.out
                  rw [show S.bytes.take (4 * 8) ++ List.replicate (32 - 4 * 8) 0 = S.bytes by rw [show 32 - 4 * 8 = 0 from rfl, List.replicate_zero, List.append_nil, List.take_of_length_le (by rw [bytes_length S]; exact Nat.le_refl _)]] at hA1
                  have hBT : Below w1.heap.size w1 wr := HBs.out.trans (HE.out.mono HBs.out.size)
                  have hA0 := HA0.out.below hBT (by have := HS0.out; omega)
                  have hB := HB0.out.trans (hBT.mono (by have := HS0.out; omega))
                  have hW := bytes_length S
                  obtain ⟨W, hWe⟩ : ∃ W, S.bytes = W := ⟨_, rfl⟩
                  rw [hWe] at hA1 hW HSB
                  have hl1 : (ints .u8 (cN W)).length = 32 := by rw [ints_length, cN_length, hW]
                  rw [show ((8 : Nat) : Int) = 8 from rfl]
                  go_upto_region 51 with (fail)
                  rename_i K0 hK0
                  apply wp_region_lit
                  refine wpList_load_mid rfl 26 (.tmp 24) rfl _ 0 rfl (ints .u8 (cN W)) _ hA1.range rfl rfl (by rw [hl1]; rfl) ?_
                  refine wpList_store_mid rfl 26 (.tmp 2) (.tmp 332) rfl _ 0 (ints .u8 (cN W)).toArray rfl rfl (hA0.there (by rw [List.size_toArray, hl1]; rfl)) (by rw [List.size_toArray, hl1]; rfl) (all_oneCell_toArray (ints_one _ _)) ?_
                  have hA2 := hA0.setCells (ys := cN W) (by rw [cN_length, cN_length, hW]; rfl)
                  have hB2 := below_setCells (Nat.le_refl w.heap.size) (ints .u8 (cN W)) 0 wr hB
                  apply wpList_nil
                  refine hK0 _ _ ?_
                  rw [List.toList_toArray]
                  generalize wr.setCells w.heap.size 0 (ints .u8 (cN W)) = w9 at *
                  go_wp2
                  refine bodyPost_ret (v := .agg (ints .u8 (cN W)).toArray) ?_ rfl ⟨by rw [HSB.out], hB2⟩
                  exact results_cell_row rfl _ _ w.heap.size 26 (ints .u8 (cN W)).toArray (0, 0) _ rfl hA2 rfl rfl (by rw [List.size_toArray, hl1]; rfl)
    · have d1 : ((n : Int) % 64 != 56) = true := by simp; omega
      have HJ2 : Aside0 (j < (119 - xs.length % 64) % 64) := Aside0.mk (by have := HMN.out; omega)
      clear hx hn hnj hj HL1
      go_wp2_with (first
        | ((with_reducible refine gate_dst (N := 38) rfl ?_); refine print_append_num (w0 := w1) w1.heap.size rfl (.tmp 36) (.tmp 37) 40 5 .u8 1 rfl rfl rfl (by omega) (.slice A3 n k3) (cN (xs ++ pad1 j)) 0 rfl rfl HO'.out HP.out HP.out.size HL2.out ?_; intro v4 w4 ho hb hg hat; clear hg hat; have HO4 := Aside0.mk ho; have HP4 := Aside0.mk hb; clear ho hb))
      have HO5 : Aside0 (w4.ownsRow w1.heap.size 5 1 v4 (cN (xs ++ pad1 (j + 1))).length (nums .u8 (cN (xs ++ pad1 (j + 1))))) := Aside0.mk (by
        have h := HO4.out
        rw [show cN (xs ++ pad1 j) ++ [(0 : Int)] = cN (xs ++ pad1 (j + 1)) by rw [← pad1_succ, ← List.append_assoc, cN_append _ [0]]; rfl] at h
        exact h)
      obtain ⟨A5, k5, rfl⟩ := own_slice HO5.out
      have hj := HJ2.out
      refine ⟨⟨j + 1, by omega, HO5, HP4⟩, ?_⟩
      have h1 : (cN (xs ++ pad1 (j + 1))).length = m + j + 2 := by rw [cN_length, List.length_append, pad1_length, HMN.out]; omega
      have h2 := HN.out.2
      have h3 := HMN.out
      rw [h1]
      show xs.length + 128 - (m + j + 2) < xs.length + 128 - n
      omega
end Go.Proofs.Ytojlhmmmiebbmaa.PNonceLists
namespace Go.Proofs.Ytojlhmmmiebbmaa.PNonceLists
open Go.RowKit Go.Proofs.YtojlhmmmiebbmaaW.PrintWords Go.Proofs.YtojlhmmmiebbmaaW.PrintLast Go.Proofs.YtojlhmmmiebbmaaW.PrintMore Go.Proofs.Ytojlhmmmiebbmaa.Sha Go.Proofs.Ytojlhmmmiebbmaa.Arr
attribute [local go_sem] max2_int min2_int max_two min_two max_three min_three max_four min_four
attribute [local go_sem high] u8_w
set_option linter.unusedVariables false
set_option linter.unusedSimpArgs false
theorem kb_get (xs : List Nat) (i : Nat) : (kb xs).getD i 0 = if i < (kk0 xs).length then (kk0 xs).getD i 0 else 0 := by
  unfold kb
  split
  · rename_i h
    rw [List.getD_eq_getElem?_getD, List.getElem?_append_left h, ← List.getD_eq_getElem?_getD]
  · rename_i h
    rw [List.getD_eq_getElem?_getD, List.getElem?_append_right (by omega), List.getElem?_replicate]
    split <;> rfl
theorem kx_take (xs : List Nat) (x i : Nat) (hi : i < 64) : (kx xs x).take i ++ [(kb xs).getD i 0 ^^^ x] = (kx xs x).take (i + 1) := by
  have h := kb_length xs
  rw [List.take_add_one]
  congr 1
  unfold kx
  rw [List.getElem?_map, List.getD_eq_getElem?_getD, List.getElem?_eq_getElem (by omega)]
  rfl
theorem own_nil {w : World} (base : Nat) {e : TypeId} {k : IntKind} : w.ownsRow base e 1 (.slice none 0 0) (cN ([] : List Nat)).length (nums k (cN ([] : List Nat))) := ⟨rfl, .inl ⟨rfl, rfl⟩⟩
theorem own_lower {w : World} {b b' n : Nat} {e : TypeId} {v : Value} {xs : List Value} (h : w.ownsRow b e 1 v n xs) (hb : b' ≤ b) : w.ownsRow b' e 1 v n xs := by
  refine ⟨h.1, ?_⟩
  rcases h.2 with h | ⟨g, cap, cur, e1, hg, r⟩
  · exact .inl h
  · exact .inr ⟨g, cap, cur, e1, Nat.le_trans hb hg, r⟩
theorem inc64 {t : Nat} (h : t < 64) : wrap64 ((t : Int) + 1) = (t : Int) + 1 := by unfold wrap64; omega
set_option maxHeartbeats 8000000 in
set_option maxRecDepth 100000 in
theorem block_calls (A0 : Option Addr) (k0 : Nat) (xs : List Nat) (x : Nat) (w : World) (hr0 : Kd.C (Kd.int .u8) w A0 (cN xs).length (cN xs)) (hx : Bs xs) (hxb : x < 256) (hl : xs.length ≤ 1000000000) :
    Calls Try.prog 52 #[.slice A0 (cN xs).length k0, .int .u8 (x : Int)] w fun e w' => ∃ g c, e = .returned (.slice (some ⟨g, 0, none⟩) 64 c) ∧ w'.ownsRow w.heap.size 5 1 (.slice (some ⟨g, 0, none⟩) 64 c) 64 (nums .u8 (cN (kx xs x))) ∧ Below w.heap.size w w' := by
  obtain ⟨m0, hm0⟩ : ∃ m, m = (cN xs).length := ⟨_, rfl⟩
  have HR0 := Aside0.mk hr0
  have HX := Aside0.mk hx
  have HXB := Aside0.mk hxb
  have HL := Aside0.mk hl
  have HM : Aside0 (m0 = xs.length ∧ m0 = (cN xs).length) := Aside0.mk ⟨by rw [hm0, cN_length], hm0⟩
  rw [← hm0]
  clear hr0 hx hxb hl
  by_cases hbig : m0 ≤ 64
  · have p0 : (m0 : Int) ≤ 64 := by omega
    have HK : Aside0 (kk0 xs = xs) := Aside0.mk (by unfold kk0; rw [if_neg (by have := HM.out.1; omega)])
    have HKM : Aside0 (m0 = (kk0 xs).length) := Aside0.mk (by rw [HK.out]; exact HM.out.1)
    have HKC : Aside0 (∀ W, Below w.heap.size w W → Kd.C (Kd.int .u8) W A0 (cN (kk0 xs)).length (cN (kk0 xs))) := Aside0.mk (fun W hb => by rw [HK.out]; exact Kd.C_below HR0.out hb)
    have HB0 : Aside0 (Below w.heap.size w w) := Aside0.mk (Below.refl _ _)
    clear hbig hm0
    go_enter Try.func52, Try.ntmps52
    go_wp2
    go_loopw [6, 7] (fun vo v wr => ∃ i : Nat, i ≤ 64 ∧ v = .int .i64 (i : Int) ∧ Aside0 (wr.ownsRow w.heap.size 5 1 vo (cN ((kx xs x).take i)).length (nums .u8 (cN ((kx xs x).take i)))) ∧ Aside0 (Below w.heap.size w wr))
      (fun _ v _ => 64 - (intOf v).toNat)
    case atStart => exact ⟨0, by omega, rfl, Aside0.mk (own_nil _), HB0⟩
    case round =>
      obtain ⟨i, hi, rfl, HO, HP⟩ := hrel
      obtain ⟨A6, k6, rfl⟩ := own_slice HO.out
      obtain ⟨m6, hm6⟩ : ∃ m, m = (cN ((kx xs x).take i)).length := ⟨_, rfl⟩
      have hm6' : m6 = i := by rw [hm6, cN_length, List.length_take, kx_length]; omega
      rw [← hm6]
      have HO6 : Aside0 (wr.ownsRow w.heap.size 5 1 (.slice A6 m6 k6) (cN ((kx xs x).take i)).length (nums .u8 (cN ((kx xs x).take i)))) := Aside0.mk (by rw [hm6]; exact HO.out)
      have hl6 : ((cN ((kx xs x).take i)).length + 1) * 1 ≤ 140737488355328 := by omega
      clear HO
      by_cases hlt : i < 64
      · have t1 : (i : Int) < 64 := by omega
        have HLT := Aside0.mk hlt
        have HPW : Aside0 (Below w.heap.size w wr) := Aside0.mk (HP.out)
        have hby := kb_bs xs HX.out i
        have hget := kb_get xs i
        have hkx := kx_take xs x i hlt
        obtain ⟨y, hY⟩ : ∃ y, (kb xs).getD i 0 = y := ⟨_, rfl⟩
        rw [hY] at hby hget hkx
        clear hY
        obtain ⟨z, hz⟩ : ∃ z, z = y ^^^ x := ⟨_, rfl⟩
        rw [← hz] at hkx
        have f1 : Go.bits .xor .u8 (y : Int) (x : Int) = (z : Int) := by rw [hz]; exact u8_xor_nat y x hby HXB.out
        have HKX := Aside0.mk hkx
        by_cases hin : i < m0
        · have t2 : (i : Int) < (m0 : Int) := by omega
          rw [if_pos (by rw [← HKM.out]; exact hin)] at hget
          obtain ⟨ad, eA, hc⟩ := kC_cell (HKC.out wr HPW.out) i (by rw [← HKM.out]; exact hin)
          cases eA
          rw [← hget] at hc
          have HO7 := HO6
          clear hm6 hm6' hby hget hkx hz hin hlt hi
          go_wp2_with (first
            | ((with_reducible refine gate_dst (N := 32) rfl ?_); refine print_append_num (w0 := wr) w.heap.size rfl (.tmp 27) (.tmp 31) 40 5 .u8 1 rfl rfl rfl (by omega) (.slice A6 m6 k6) (cN ((kx xs x).take i)) (z : Int) rfl rfl HO6.out (Below.refl _ _) HP.out.size hl6 ?_; intro v8 w8 ho hb hg hat; clear hg hat; have HO8 := Aside0.mk ho; have HP8 := Aside0.mk hb; clear ho hb))
          have ho := HO8.out
          rw [show cN ((kx xs x).take i) ++ [(z : Int)] = cN ((kx xs x).take (i + 1)) by rw [← HKX.out, cN_append]; rfl] at ho
          have v9 := inc64 HLT.out
          try rw [v9]
          refine ⟨⟨i + 1, HLT.out, by rw [Int.natCast_add]; rfl, Aside0.mk ho, Aside0.mk (HP.out.trans (HP8.out.mono (Nat.le_refl _)))⟩, meas64' HLT.out⟩
        · have t2 : ¬ (i : Int) < (m0 : Int) := by omega
          rw [if_neg (by rw [← HKM.out]; exact hin)] at hget
          subst hget
          clear hm6 hm6' hby hkx hz hin hlt hi
          have f2 : Go.bits .xor .u8 0 (x : Int) = (z : Int) := f1
          go_wp2_with (first
            | ((with_reducible refine gate_dst (N := 32) rfl ?_); refine print_append_num (w0 := wr) w.heap.size rfl (.tmp 27) (.tmp 31) 40 5 .u8 1 rfl rfl rfl (by omega) (.slice A6 m6 k6) (cN ((kx xs x).take i)) (z : Int) rfl rfl HO6.out (Below.refl _ _) HP.out.size hl6 ?_; intro v8 w8 ho hb hg hat; clear hg hat; have HO8 := Aside0.mk ho; have HP8 := Aside0.mk hb; clear ho hb))
          have ho := HO8.out
          rw [show cN ((kx xs x).take i) ++ [(z : Int)] = cN ((kx xs x).take (i + 1)) by rw [← HKX.out, cN_append]; rfl] at ho
          have v9 := inc64 HLT.out
          try rw [v9]
          refine ⟨⟨i + 1, HLT.out, by rw [Int.natCast_add]; rfl, Aside0.mk ho, Aside0.mk (HP.out.trans (HP8.out.mono (Nat.le_refl _)))⟩, meas64' HLT.out⟩
      · have hi' : i = 64 := by omega
        subst hi'
        obtain rfl : m6 = 64 := hm6'
        obtain ⟨g6, rfl⟩ : ∃ g, A6 = some ⟨g, 0, none⟩ := by
          rcases HO6.out.2 with ⟨e, h0⟩ | ⟨b0, cap, cur, e, _⟩
          · rw [← hm6] at h0; cases h0
          · injection e with e1 e2 e3
            exact ⟨b0, e1⟩
        have HF : Aside0 (wr.ownsRow w.heap.size 5 1 (.slice (some ⟨g6, 0, none⟩) 64 k6) 64 (nums .u8 (cN (kx xs x)))) := Aside0.mk (by
          have h := HO6.out
          rw [← hm6, List.take_of_length_le (by rw [kx_length]; exact Nat.le_refl _)] at h
          exact own_lower h (Nat.le_refl _))
        rw [show ((64 : Nat) : Int) = 64 from rfl]
        have HPW : Aside0 (Below w.heap.size w wr) := Aside0.mk (HP.out)
        clear hlt hi hm6 hl6
        go_wp2
        go_ret
        exact ⟨g6, k6, rfl, HF.out, HPW.out⟩
  · have p0 : ¬ (m0 : Int) ≤ 64 := by omega
    have HK : Aside0 (kk0 xs = sum xs) := Aside0.mk (by unfold kk0; rw [if_pos (by have := HM.out.1; omega)])
    have hsu := rsum_calls A0 k0 xs w HR0.out HX.out (by have := HL.out; omega)
    rw [← HM.out.2] at hsu
    have HSU := Aside0.mk hsu
    clear hbig hm0 hsu
    go_enter Try.func52, Try.ntmps52
    go_upto_region 2 with (fail)
    rename_i K0 hK0
    apply wp_region_lit
    refine Go.Great.wpList_readTo rfl (some 12) rfl (.slice A0 m0 k0) rfl ?_
    refine wpList_callR rfl (some 13) rfl 51 #[.slice A0 m0 k0] (by simp only [Act.put, List.setIfInBounds_toArray, List.set_cons_zero, List.set_cons_succ]; go_simp) _ HSU.out ?_
    rintro e w6 ⟨rfl, hB6⟩
    refine ⟨_, rfl, ?_⟩
    obtain ⟨D, hDg⟩ : ∃ D, sum xs = D := ⟨_, rfl⟩
    have hDl0 : D.length = 32 := by rw [← hDg]; rfl
    rw [hDg]
    rw [hDg] at HK
    have hDl : (cN D).length = 32 := by rw [cN_length, hDl0]
    have hl1 : (ints .u8 (cN D)).length = 32 := by rw [ints_length, hDl]
    refine Go.Great.wpList_allocTo rfl (some 5) rfl _ (.cells (ints .u8 (cN z32)).toArray 26) rfl ?_
    have hA := Arr.new w6 .u8 26 (cN z32)
    have hP7 : Below w6.heap.size w6 (w6.alloc (.cells (ints .u8 (cN z32)).toArray 26)) := below_alloc (Below.refl _ _) _
    generalize w6.alloc (.cells (ints .u8 (cN z32)).toArray 26) = w7 at *
    refine wpList_store_mid rfl 26 (.tmp 5) (.tmp 13) rfl w6.heap.size 0 (ints .u8 (cN D)).toArray rfl rfl (hA.there (by rw [List.size_toArray, hl1]; rfl)) (by rw [List.size_toArray, hl1]; rfl) (all_oneCell_toArray (ints_one _ _)) ?_
    have hA2 := hA.setCells (ys := cN D) (by rw [cN_length, hDl]; rfl)
    have hP8 := below_setCells (Nat.le_refl w6.heap.size) (ints .u8 (cN D)) 0 w7 hP7
    apply wpList_nil
    refine hK0 _ _ ?_
    rw [List.toList_toArray]
    clear hA hP7 hK0 K0
    generalize w7.setCells w6.heap.size 0 (ints .u8 (cN D)) = w8 at *
    have hB8 : Below w.heap.size w w8 := hB6.trans (hP8.mono hB6.size)
    have hs8 : w.heap.size ≤ w8.heap.size := hB8.size
    have HB8 := Aside0.mk hB8
    have HA8 := Aside0.mk hA2
    have HDL := Aside0.mk (And.intro hDl0 hDl)
    have HS8 := Aside0.mk hs8
    clear hB6 hDg hDl0 hDl hl1 hA2 hP8 hB8 hs8 HSU
    have HKM : Aside0 (32 = (kk0 xs).length) := Aside0.mk (by rw [HK.out]; exact HDL.out.1.symm)
    have HGD : Aside0 (w6.heap.size < w8.heap.size) := Aside0.mk HA8.out.size
    have HKC : Aside0 (∀ W, Below w8.heap.size w8 W → Kd.C (Kd.int .u8) W (some ⟨w6.heap.size, 0, none⟩) (cN (kk0 xs)).length (cN (kk0 xs))) := Aside0.mk (fun W hb => by rw [HK.out, HDL.out.2]; exact arr_C32 HDL.out.2 (HA8.out.below hb HA8.out.size))
    have HB0 : Aside0 (Below w8.heap.size w8 w8) := Aside0.mk (Below.refl _ _)
    generalize w6.heap.size = gd at *
    go_wp2
    go_loopw [6, 7] (fun vo v wr => ∃ i : Nat, i ≤ 64 ∧ v = .int .i64 (i : Int) ∧ Aside0 (wr.ownsRow w8.heap.size 5 1 vo (cN ((kx xs x).take i)).length (nums .u8 (cN ((kx xs x).take i)))) ∧ Aside0 (Below w8.heap.size w8 wr))
      (fun _ v _ => 64 - (intOf v).toNat)
    case atStart => exact ⟨0, by omega, rfl, Aside0.mk (own_nil _), HB0⟩
    case round =>
      obtain ⟨i, hi, rfl, HO, HP⟩ := hrel
      obtain ⟨A6, k6, rfl⟩ := own_slice HO.out
      obtain ⟨m6, hm6⟩ : ∃ m, m = (cN ((kx xs x).take i)).length := ⟨_, rfl⟩
      have hm6' : m6 = i := by rw [hm6, cN_length, List.length_take, kx_length]; omega
      rw [← hm6]
      have HO6 : Aside0 (wr.ownsRow w8.heap.size 5 1 (.slice A6 m6 k6) (cN ((kx xs x).take i)).length (nums .u8 (cN ((kx xs x).take i)))) := Aside0.mk (by rw [hm6]; exact HO.out)
      have hl6 : ((cN ((kx xs x).take i)).length + 1) * 1 ≤ 140737488355328 := by omega
      clear HO
      by_cases hlt : i < 64
      · have t1 : (i : Int) < 64 := by omega
        have HLT := Aside0.mk hlt
        have HPW : Aside0 (Below w.heap.size w wr) := Aside0.mk (HB8.out.trans (HP.out.mono HS8.out))
        have hby := kb_bs xs HX.out i
        have hget := kb_get xs i
        have hkx := kx_take xs x i hlt
        obtain ⟨y, hY⟩ : ∃ y, (kb xs).getD i 0 = y := ⟨_, rfl⟩
        rw [hY] at hby hget hkx
        clear hY
        obtain ⟨z, hz⟩ : ∃ z, z = y ^^^ x := ⟨_, rfl⟩
        rw [← hz] at hkx
        have f1 : Go.bits .xor .u8 (y : Int) (x : Int) = (z : Int) := by rw [hz]; exact u8_xor_nat y x hby HXB.out
        have HKX := Aside0.mk hkx
        by_cases hin : i < 32
        · have t2 : (i : Int) < 32 := by omega
          rw [if_pos (by rw [← HKM.out]; exact hin)] at hget
          obtain ⟨ad, eA, hc⟩ := kC_cell (HKC.out wr HP.out) i (by rw [← HKM.out]; exact hin)
          cases eA
          rw [show (⟨gd, 0, none⟩ : Addr).add i = ⟨gd, i, none⟩ by rw [Addr.add_mid, Nat.zero_add]] at hc
          rw [← hget] at hc
          have HO7 := HO6
          clear hm6 hm6' hby hget hkx hz hin hlt hi
          go_wp2_with (first
            | ((with_reducible refine gate_dst (N := 32) rfl ?_); refine print_append_num (w0 := wr) w8.heap.size rfl (.tmp 27) (.tmp 31) 40 5 .u8 1 rfl rfl rfl (by omega) (.slice A6 m6 k6) (cN ((kx xs x).take i)) (z : Int) rfl rfl HO6.out (Below.refl _ _) HP.out.size hl6 ?_; intro v8 w8 ho hb hg hat; clear hg hat; have HO8 := Aside0.mk ho; have HP8 := Aside0.mk hb; clear ho hb))
          have ho := HO8.out
          rw [show cN ((kx xs x).take i) ++ [(z : Int)] = cN ((kx xs x).take (i + 1)) by rw [← HKX.out, cN_append]; rfl] at ho
          have v9 := inc64 HLT.out
          try rw [v9]
          refine ⟨⟨i + 1, HLT.out, by rw [Int.natCast_add]; rfl, Aside0.mk ho, Aside0.mk (HP.out.trans HP8.out)⟩, meas64' HLT.out⟩
        · have t2 : ¬ (i : Int) < 32 := by omega
          rw [if_neg (by rw [← HKM.out]; exact hin)] at hget
          subst hget
          clear hm6 hm6' hby hkx hz hin hlt hi
          have f2 : Go.bits .xor .u8 0 (x : Int) = (z : Int) := f1
          go_wp2_with (first
            | ((with_reducible refine gate_dst (N := 32) rfl ?_); refine print_append_num (w0 := wr) w8.heap.size rfl (.tmp 27) (.tmp 31) 40 5 .u8 1 rfl rfl rfl (by omega) (.slice A6 m6 k6) (cN ((kx xs x).take i)) (z : Int) rfl rfl HO6.out (Below.refl _ _) HP.out.size hl6 ?_; intro v8 w8 ho hb hg hat; clear hg hat; have HO8 := Aside0.mk ho; have HP8 := Aside0.mk hb; clear ho hb))
          have ho := HO8.out
          rw [show cN ((kx xs x).take i) ++ [(z : Int)] = cN ((kx xs x).take (i + 1)) by rw [← HKX.out, cN_append]; rfl] at ho
          have v9 := inc64 HLT.out
          try rw [v9]
          refine ⟨⟨i + 1, HLT.out, by rw [Int.natCast_add]; rfl, Aside0.mk ho, Aside0.mk (HP.out.trans HP8.out)⟩, meas64' HLT.out⟩
      · have hi' : i = 64 := by omega
        subst hi'
        obtain rfl : m6 = 64 := hm6'
        obtain ⟨g6, rfl⟩ : ∃ g, A6 = some ⟨g, 0, none⟩ := by
          rcases HO6.out.2 with ⟨e, h0⟩ | ⟨b0, cap, cur, e, _⟩
          · rw [← hm6] at h0; cases h0
          · injection e with e1 e2 e3
            exact ⟨b0, e1⟩
        have HF : Aside0 (wr.ownsRow w.heap.size 5 1 (.slice (some ⟨g6, 0, none⟩) 64 k6) 64 (nums .u8 (cN (kx xs x)))) := Aside0.mk (by
          have h := HO6.out
          rw [← hm6, List.take_of_length_le (by rw [kx_length]; exact Nat.le_refl _)] at h
          exact own_lower h HS8.out)
        rw [show ((64 : Nat) : Int) = 64 from rfl]
        have HPW : Aside0 (Below w.heap.size w wr) := Aside0.mk (HB8.out.trans (HP.out.mono HS8.out))
        clear hlt hi hm6 hl6
        go_wp2
        go_ret
        exact ⟨g6, k6, rfl, HF.out, HPW.out⟩
end Go.Proofs.Ytojlhmmmiebbmaa.PNonceLists
