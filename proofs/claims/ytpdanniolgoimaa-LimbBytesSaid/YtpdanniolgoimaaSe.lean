/- clapperref01.Of: the number of up to 32 bytes, by its parts. -/
import Derived.Test.YtpdanniolgoimaaSa
import Derived.Test.YtpdanniolgoimaaRc
namespace Go.Proofs.Ytpdanniolgoimaa
open Go.RowKit
set_option linter.unusedVariables false
set_option linter.unusedSimpArgs false

/-- a byte put in above all others, by parts -/
theorem pt_put (n x i : Nat) (hn : n < 256 ^ i) (hx : x < 256) (hi : i < 32) (q : Nat) :
    pt (n + x * 256 ^ i) q = if q = i / 2 then pt n q + x * 256 ^ (i % 2) else pt n q := by
  have e : 256 ^ i = 65536 ^ (i / 2) * 256 ^ (i % 2) := by
    rw [show (65536 : Nat) = 256 ^ 2 from by decide, ← Nat.pow_mul, ← Nat.pow_add]; congr 1; omega
  have hr : i % 2 = 0 ∨ i % 2 = 1 := by omega
  rw [e] at hn ⊢
  unfold pt
  by_cases hq : q = i / 2
  · rw [if_pos hq, ← hq]
    have e2 : n + x * (65536 ^ q * 256 ^ (i % 2)) = n + 65536 ^ q * (x * 256 ^ (i % 2)) := by rw [Nat.mul_left_comm]
    rw [← hq] at hn
    have hd : n / 65536 ^ q < 256 ^ (i % 2) := (Nat.div_lt_iff_lt_mul (Nat.pow_pos (by omega))).2 (by rw [Nat.mul_comm]; exact hn)
    rw [e2, Nat.add_mul_div_left _ _ (Nat.pow_pos (by omega))]
    generalize n / 65536 ^ q = m at *
    rcases hr with h | h <;> (rw [h] at hd ⊢; simp only [Nat.reducePow] at hd ⊢; omega)
  · rw [if_neg hq]
    by_cases hlt : q < i / 2
    · have e3 : 65536 ^ (i / 2) = 65536 ^ q * (65536 * 65536 ^ (i / 2 - q - 1)) := by rw [← Nat.pow_succ', ← Nat.pow_add]; congr 1; omega
      rw [e3]
      have e4 : n + x * (65536 ^ q * (65536 * 65536 ^ (i / 2 - q - 1)) * 256 ^ (i % 2)) = n + 65536 ^ q * (65536 * (x * 65536 ^ (i / 2 - q - 1) * 256 ^ (i % 2))) := by
        congr 1; ac_rfl
      rw [e4, Nat.add_mul_div_left _ _ (Nat.pow_pos (by omega)), Nat.add_mul_mod_self_left]
    · have hle : 65536 ^ (i / 2 + 1) ≤ 65536 ^ q := Nat.pow_le_pow_right (by omega) (by omega)
      have hb : (x + 1) * (65536 ^ (i / 2) * 256 ^ (i % 2)) ≤ 65536 ^ (i / 2 + 1) := by
        rw [Nat.pow_succ, Nat.mul_left_comm]
        apply Nat.mul_le_mul_left
        rcases hr with h | h <;> (rw [h]; simp only [Nat.reducePow]; omega)
      rw [Nat.add_mul, Nat.one_mul] at hb
      rw [Nat.div_eq_of_lt (by omega), Nat.div_eq_of_lt (by omega)]
set_option maxRecDepth 100000 in
set_option maxHeartbeats 1600000 in
/-- clapperref01.Of -/
theorem rof_calls {A : Option Addr} {bs : List Nat} {cap : Nat} {w : World} (hb : BAt w A bs) (h : bs.length ≤ 32) :
    Calls Try.prog 14 #[.slice A bs.length cap] w fun e w' => e = .returned (numV (beN bs)) ∧ Below w.heap.size w w' := by
  have hlt : beN bs < N256 := by
    have h1 := beN_lt bs hb.2
    have h2 : 256 ^ bs.length ≤ 256 ^ 32 := Nat.pow_le_pow_right (by omega) h
    have e : 256 ^ 32 = N256 := by unfold N256; decide
    omega
  have HM := Lib.hid (Nat.mod_eq_of_lt hlt)
  have HB := Lib.hid hb
  clear hb hlt
  rw [numV_def]
  have hmk : ∀ w : World, (Instr.makeSlice 45 (.int .i64 16) (.int .i64 16)).run Try.prog w = .ok (.slice (some ⟨w.heap.size, 0, none⟩) 16 16) (w.alloc (.cells #[.int .i64 0, .int .i64 0, .int .i64 0, .int .i64 0, .int .i64 0, .int .i64 0, .int .i64 0, .int .i64 0, .int .i64 0, .int .i64 0, .int .i64 0, .int .i64 0, .int .i64 0, .int .i64 0, .int .i64 0, .int .i64 0] 3)) := fun _ => by kernel_rfl
  go_enter Try.func14, Try.ntmps14
  go_wp2
  go_loopw [4] (fun i wr => ∃ k : Nat, k ≤ bs.length ∧ i = .int .i64 k ∧ Hid (Rw wr 3 (w.heap.size + 1) (ptL (beN (bs.drop (bs.length - k))) 16)) ∧ Hid (Rw wr 24 w.heap.size [.int .u64 0, .int .u64 0, .int .u64 0, .int .u64 0]) ∧ Below w.heap.size w wr)
    (fun i _ => bs.length - (intOf i).toNat)
  case atStart =>
    refine ⟨0, Nat.zero_le _, rfl, Lib.hid ?_, Lib.hid ?_, by repeat (first | exact Below.refl _ _ | refine Below.drew ?_ | refine below_drewN ?_ _ | refine Below.alloc ?_ (by first | (simp; done) | (simp; omega)) _)⟩
    · rw [Nat.sub_zero, List.drop_length]
      have : ptL (beN []) 16 = fnL (fun _ => 0) 16 := fnL_congr fun j _ => by unfold pt beN; simp
      rw [this]
      exact Rw.new (by simp)
    · exact (Rw.new rfl).alloc _
  case round =>
    obtain ⟨k, hk, rfl, HX, HZ, hB⟩ := hrel
    by_cases hkl : k < bs.length
    · have hq : k / 2 < 16 := by omega
      have cx := HX.out.cell (ptL_get _ _ _ hq)
      have fx := HX.out.free (k / 2)
      have hl := HB.out.lt (bs.length - 1 - k)
      have hn := beN_drop_lt bs HB.out.2 k (by omega)
      obtain ⟨b, o, rfl, hbs, hcell⟩ : ∃ b o, A = some ⟨b, o, none⟩ ∧ b < w.heap.size ∧ ∀ i, i < bs.length → w.cell? ⟨b, o + i, none⟩ = some (.int .u8 (bs.getD i 0 : Nat)) := by
        rcases HB.out.1 with h | h
        · rw [h] at hkl; simp at hkl
        · exact h
      have cb := (hB.cell (p := ⟨b, o + (bs.length - 1 - k), none⟩) hbs).trans (hcell (bs.length - 1 - k) (by omega))
      have hp := pt_put (beN (bs.drop (bs.length - k))) (bs.getD (bs.length - 1 - k) 0) k hn hl (by omega)
      have hst := beN_step bs k hkl
      rw [← hst] at hp
      have hps := hp (k / 2)
      rw [if_pos rfl] at hps
      have hpl := pt_lt (beN (bs.drop (bs.length - k))) (k / 2)
      have HP := Lib.hid hp; have HPS := Lib.hid hps
      obtain ⟨x, hxe⟩ : ∃ x, x = bs.getD (bs.length - 1 - k) 0 := ⟨_, rfl⟩
      rw [← hxe] at hl cb HP HPS
      obtain ⟨y, hye⟩ : ∃ y, y = pt (beN (bs.drop (bs.length - k))) (k / 2) := ⟨_, rfl⟩
      rw [← hye] at cx hpl HPS
      have HXE := Lib.hid hxe; have HYE := Lib.hid hye
      obtain ⟨z, hze⟩ : ∃ z, z = pt (beN (bs.drop (bs.length - (k + 1)))) (k / 2) := ⟨_, rfl⟩
      rw [← hze] at HPS
      have HZE := Lib.hid hze
      have hsz := hB.size
      have set16 : Hid (∀ wz, wz = wr.setCell ⟨w.heap.size + 1, k / 2, none⟩ (.int .i64 (z : Nat)) → Rw wz 3 (w.heap.size + 1) (ptL (beN (bs.drop (bs.length - (k + 1)))) 16) ∧ Rw wz 24 w.heap.size [.int .u64 0, .int .u64 0, .int .u64 0, .int .u64 0] ∧ Below w.heap.size w wz) := Lib.hid (by
        rintro wz rfl
        refine ⟨?_, HZ.out.set_other (by simp) _, hB.setCell (by simp) _⟩
        have h1 := HX.out.set (k / 2) (.int .i64 (z : Nat))
        rw [fnL_set] at h1
        have e : fnL (fun j => if j = k / 2 then z else pt (beN (bs.drop (bs.length - k))) j) 16 = ptL (beN (bs.drop (bs.length - (k + 1)))) 16 := fnL_congr fun j _ => by
          by_cases hj : j = k / 2
          · rw [if_pos hj, HZE.out, hj]
          · rw [if_neg hj, HP.out j, if_neg hj]
        rw [e] at h1
        exact h1)
      clear hp hst hps hn hcell hxe hye hze HX HZ hB
      have hr : k % 2 = 0 ∨ k % 2 = 1 := by omega
      rcases hr with hr | hr
      · have hv : (y : Int) + (x : Int) = (z : Int) := by have := HPS.out; rw [hr] at this; simp at this; omega
        have HV := Lib.hid hv
        have hrb : ((k : Int) % 2 == 0) = true := by rw [beq_iff_eq]; omega
        have HR := Lib.hid hr
        clear hv hr
        go_wp2
        go_region
        rw [HV.out]
        obtain ⟨wz, hwz⟩ : ∃ wz, wz = wr.setCell ⟨w.heap.size + 1, k / 2, none⟩ (.int .i64 (z : Nat)) := ⟨_, rfl⟩
        rw [← hwz]
        obtain ⟨hx2, hz2, hb2⟩ := set16.out wz hwz
        have HX2 := Lib.hid hx2; have HZ2 := Lib.hid hz2
        clear hx2 hz2 hwz cx cb fx
        go_wp2
        go_roundw
        case rel => exact ⟨k + 1, by omega, by go_num, HX2, HZ2, hb2.drew⟩
        case measure => simp [intOf]; omega
      · have hv : (y : Int) + 256 * (x : Int) = (z : Int) := by have := HPS.out; rw [hr] at this; simp at this; omega
        have HV := Lib.hid hv
        have hrb : ((k : Int) % 2 == 0) = false := by rw [beq_eq_false_iff_ne]; omega
        have HR := Lib.hid hr
        clear hv hr
        go_wp2
        go_region
        rw [HV.out]
        obtain ⟨wz, hwz⟩ : ∃ wz, wz = wr.setCell ⟨w.heap.size + 1, k / 2, none⟩ (.int .i64 (z : Nat)) := ⟨_, rfl⟩
        rw [← hwz]
        obtain ⟨hx2, hz2, hb2⟩ := set16.out wz hwz
        have HX2 := Lib.hid hx2; have HZ2 := Lib.hid hz2
        clear hx2 hz2 hwz cx cb fx
        go_wp2
        go_roundw
        case rel => exact ⟨k + 1, by omega, by go_num, HX2, HZ2, hb2.drew⟩
        case measure => simp [intOf]; omega
    · have hk2 : k = bs.length := by omega
      have hx := HX.out
      rw [hk2, Nat.sub_self, List.drop_zero] at hx
      have hn := num_calls (cap := 16) hx
      rw [HM.out, numV_def] at hn
      have HN := Lib.hid hn
      clear hx hn
      go_wp2_with fail
      refine HN.out.mono ?_
      rintro e w3 ⟨rfl, hb3⟩
      have rz3 := HZ.out.below hb3 HZ.out.size
      obtain ⟨c0, c1, c2, c3⟩ := rz3.four
      have z0 := rz3.free 0
      have z1 := rz3.free 1
      have z2 := rz3.free 2
      have z3 := rz3.free 3
      have hz3 := rz3.size
      have hB3 := hB.trans (hb3.mono (by have := HZ.out.size; omega))
      clear rz3 hb3
      go_wp2
      refine bodyPost_ret (v := .agg #[.int .u64 (wd0 (beN bs) : Nat), .int .u64 (wd1 (beN bs) : Nat), .int .u64 (wd2 (beN bs) : Nat), .int .u64 (wd3 (beN bs) : Nat)]) (by simp [results, Try.results14, go_sem, c0, c1, c2, c3]) rfl ⟨rfl, ?_⟩
      repeat (first | (with_reducible exact hB3) | refine Below.setCell ?_ (by simp) _)
end Go.Proofs.Ytpdanniolgoimaa
