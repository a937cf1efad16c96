/- What the proof of NonceLists is made of, part 13. -/
import Derived.Test.YtojlhmmmiebbmaaZNonceLists12
namespace Go.Proofs.Ytojlhmmmiebbmaa.PNonceLists
open Go.RowKit Go.Proofs.YtojlhmmmiebbmaaW.PrintWords Go.Proofs.YtojlhmmmiebbmaaW.PrintLast Go.Proofs.YtojlhmmmiebbmaaW.PrintMore Go.Proofs.Ytojlhmmmiebbmaa.Sha Go.Proofs.Ytojlhmmmiebbmaa.Arr
set_option linter.unusedVariables false
set_option linter.unusedSimpArgs false
theorem rotr_step (x i : Nat) (hi : i < 32) : rotr x i = 2 * (x / 2 ^ (i + 1) + (x % 2 ^ i) * 2 ^ (31 - i)) + x / 2 ^ i % 2 ∧ rotr x (i + 1) = x / 2 ^ (i + 1) + (x % 2 ^ i) * 2 ^ (31 - i) + (x / 2 ^ i % 2) * 2147483648 := by
  have e1 : (2 : Nat) ^ (32 - i) = 2 * 2 ^ (31 - i) := by rw [show 32 - i = (31 - i) + 1 by omega, Nat.pow_succ, Nat.mul_comm]
  have e2 : x / 2 ^ (i + 1) = x / 2 ^ i / 2 := by rw [Nat.pow_succ, Nat.div_div_eq_div_mul]
  have e3 : x % 2 ^ (i + 1) = x % 2 ^ i + 2 ^ i * (x / 2 ^ i % 2) := Nat.mod_pow_succ
  have e4 : (2 : Nat) ^ i * 2 ^ (31 - i) = 2147483648 := by rw [← Nat.pow_add, show i + (31 - i) = 31 by omega]
  unfold rotr
  rw [show 32 - (i + 1) = 31 - i by omega, e1, e3, e2]
  generalize x / 2 ^ i = a
  generalize x % 2 ^ i = r
  constructor
  · rw [Nat.mul_add 2, ← Nat.mul_assoc, Nat.mul_comm r 2, Nat.mul_assoc 2 r]
    omega
  · rw [Nat.add_mul, Nat.mul_comm (2 ^ i) (a % 2), Nat.mul_assoc (a % 2), e4]
    omega
theorem right_loop (x n : Nat) (hx : x < 4294967296) (hn : n ≤ 32) : ∀ (d i k : Nat), i + d = n → d < k → clapperref03_right.l0 k ((rotr x i : Nat) : Int) (n : Int) (i : Int) = some ((rotr x n : Nat) : Int) := by
  intro d
  induction d with
  | zero =>
    intro i k h1 h2
    obtain ⟨k, rfl⟩ : ∃ j, k = j + 1 := ⟨k - 1, by omega⟩
    unfold clapperref03_right.l0
    rw [if_neg (by omega), show i = n by omega]
  | succ d ih =>
    intro i k h1 h2
    obtain ⟨k, rfl⟩ : ∃ j, k = j + 1 := ⟨k - 1, by omega⟩
    unfold clapperref03_right.l0
    have hs := rotr_step x i (by omega)
    have hl := rotr_lt x i hx (by omega)
    have hl2 := rotr_lt x (i + 1) hx (by omega)
    have ew : wrap64 ((i : Int) + 1) = ((i + 1 : Nat) : Int) := by unfold wrap64; omega
    have hi := ih (i + 1) k (by omega) (by omega)
    rw [if_pos (by omega), ew, Int.tmod_eq_emod_of_nonneg (by omega), Int.tdiv_eq_ediv_of_nonneg (by omega)]
    obtain ⟨hs1, hs2⟩ := hs
    generalize x / 2 ^ (i + 1) + (x % 2 ^ i) * 2 ^ (31 - i) = y at *
    have hz : x / 2 ^ i % 2 < 2 := Nat.mod_lt _ (by omega)
    generalize x / 2 ^ i % 2 = z at *
    split
    · rw [show ((((rotr x i : Nat) : Int) / 2 % 4294967296 + 2147483648) % 4294967296) = ((rotr x (i + 1) : Nat) : Int) by omega]
      exact hi
    · rw [show (((rotr x i : Nat) : Int) / 2 % 4294967296) = ((rotr x (i + 1) : Nat) : Int) by omega]
      exact hi
theorem right_calls (x n : Nat) (hx : x < 4294967296) (hn : n ≤ 32) (w : World) : Calls Try.prog 61 #[.int .u32 (x : Int), .int .i64 (n : Int)] w fun e w' => e = .returned (.int .u32 ((rotr x n : Nat) : Int)) ∧ Drawn0 w w' :=
  clapperref03_right.calls 40 _ _ _ w (by
    have h := right_loop x n hx hn n 0 40 (by omega) (by omega)
    have e : rotr x 0 = x := by unfold rotr; simp [Nat.mod_one]
    rw [e] at h
    exact h)
theorem shift_loop (x n : Nat) (hx : x < 4294967296) : ∀ (d i k : Nat), i + d = n → n ≤ 32 → d < k → clapperref03_shift.l0 k ((x / 2 ^ i : Nat) : Int) (n : Int) (i : Int) = some ((x / 2 ^ n : Nat) : Int) := by
  intro d
  induction d with
  | zero =>
    intro i k h1 h0 h2
    obtain ⟨k, rfl⟩ : ∃ j, k = j + 1 := ⟨k - 1, by omega⟩
    unfold clapperref03_shift.l0
    rw [if_neg (by omega), show i = n by omega]
  | succ d ih =>
    intro i k h1 h0 h2
    obtain ⟨k, rfl⟩ : ∃ j, k = j + 1 := ⟨k - 1, by omega⟩
    unfold clapperref03_shift.l0
    have e2 : x / 2 ^ (i + 1) = x / 2 ^ i / 2 := by rw [Nat.pow_succ, Nat.div_div_eq_div_mul]
    have ew : wrap64 ((i : Int) + 1) = ((i + 1 : Nat) : Int) := by unfold wrap64; omega
    have hi := ih (i + 1) k (by omega) h0 (by omega)
    have hl : x / 2 ^ i < 4294967296 := Nat.lt_of_le_of_lt (Nat.div_le_self _ _) hx
    rw [if_pos (by omega), ew, Int.tdiv_eq_ediv_of_nonneg (Int.natCast_nonneg _)]
    have key : ∀ a : Nat, a < 4294967296 → ((a : Int) / 2 % 4294967296) = ((a / 2 : Nat) : Int) := by intro a h; omega
    rw [key _ hl, ← e2]
    exact hi
theorem shift_calls (x n : Nat) (hx : x < 4294967296) (hn : n ≤ 32) (w : World) : Calls Try.prog 62 #[.int .u32 (x : Int), .int .i64 (n : Int)] w fun e w' => e = .returned (.int .u32 ((x / 2 ^ n : Nat) : Int)) ∧ Drawn0 w w' :=
  clapperref03_shift.calls 40 _ _ _ w (by
    have h := shift_loop x n hx n 0 40 (by omega) hn (by omega)
    rw [Nat.pow_zero, Nat.div_one] at h
    exact h)
/-- the words of a block, the first t of them -/
def wds (b : List Nat) (t : Nat) : List Nat := if t ≤ 16 then first b t else wl b (t - 16)
theorem and_as (a b c : Nat) (h : c = a &&& b) (ha : a < 4294967296) (hb : b < 4294967296) : Go.bits .and .u32 (a : Int) (b : Int) = (c : Int) := by
  subst h
  exact u32_and_nat a b ha hb
theorem or_as (a b c : Nat) (h : c = a ||| b) (ha : a < 4294967296) (hb : b < 4294967296) : Go.bits .or .u32 (a : Int) (b : Int) = (c : Int) := by
  subst h
  exact u32_or_nat a b ha hb
theorem not_as (a c : Nat) (h : c = 4294967295 - a) (ha : a < 4294967296) : IntKind.u32.wrap (4294967295 - (a : Int)) = (c : Int) := by
  subst h
  rw [IntKind.wrap_u32]
  omega
theorem right_as (x n r : Nat) (z : Int) (hz : (n : Int) = z) (hr : r = rotr x n) (hx : x < 4294967296) (hn : n ≤ 32) (w : World) : Calls Try.prog 61 #[.int .u32 (x : Int), .int .i64 z] w fun e w' => e = .returned (.int .u32 (r : Int)) ∧ Drawn0 w w' := by
  subst hz
  subst hr
  exact right_calls x n hx hn w
theorem shift_as (x n r : Nat) (z : Int) (hz : (n : Int) = z) (hr : r = x / 2 ^ n) (hx : x < 4294967296) (hn : n ≤ 32) (w : World) : Calls Try.prog 62 #[.int .u32 (x : Int), .int .i64 z] w fun e w' => e = .returned (.int .u32 (r : Int)) ∧ Drawn0 w w' := by
  subst hz
  subst hr
  exact shift_calls x n hx hn w
theorem add_w (a b c : Nat) (h : c = add2 a b) : IntKind.u32.wrap ((a : Int) + (b : Int)) = (c : Int) := by
  subst h
  rw [IntKind.wrap_u32]
  unfold add2
  omega
theorem xor_as (a b c : Nat) (h : c = a ^^^ b) (ha : a < 4294967296) (hb : b < 4294967296) : Go.bits .xor .u32 (a : Int) (b : Int) = (c : Int) := by
  subst h
  exact xor2 a b ha hb
theorem wds_lt (b : List Nat) (h8 : ∀ i, b.getD i 0 < 256) (t i : Nat) : (wds b t).getD i 0 < 4294967296 := by
  unfold wds
  split
  · by_cases h : i < (first b t).length
    · rw [List.getD_eq_getElem?_getD, List.getElem?_eq_getElem h]
      obtain ⟨j, _, e⟩ := List.mem_map.1 (List.getElem_mem h)
      show (first b t)[i] < _
      rw [← e]
      exact word_lt b h8 j
    · rw [List.getD_eq_getElem?_getD, List.getElem?_eq_none (by omega)]; exact Nat.zero_lt_succ _
  · exact wl_lt b h8 _ i
theorem drawn_own {w w' : World} {base n : Nat} {e : TypeId} {v : Value} {xs : List Value} (d : Drawn0 w w') (h : w.ownsRow base e 1 v n xs) : w'.ownsRow base e 1 v n xs := own_move h (fun q hq => d.below.block q (own_lt h q hq))
theorem or_lt (a b : Nat) (ha : a < 4294967296) (hb : b < 4294967296) : a ||| b < 4294967296 := Nat.or_lt_two_pow (n := 32) ha hb
theorem chr_int (x y z : Nat) (hx : x < 4294967296) (hy : y < 4294967296) (hz : z < 4294967296) : Go.bits .or .u32 (Go.bits .and .u32 (x : Int) (y : Int)) (Go.bits .and .u32 ((4294967295 - x : Nat) : Int) (z : Int)) = ((chf x y z : Nat) : Int) := by
  have h1 : x &&& y < 4294967296 := Nat.lt_of_le_of_lt Nat.and_le_left hx
  have h2 : (4294967295 - x) &&& z < 4294967296 := Nat.lt_of_le_of_lt Nat.and_le_right hz
  rw [u32_and_nat x y hx hy, u32_and_nat _ z (by omega) hz, u32_or_nat _ _ h1 h2]
  congr 1
  unfold chf
  apply Nat.eq_of_testBit_eq
  intro i
  rw [← not32 x hx, Nat.testBit_or, Nat.testBit_xor, Nat.testBit_and, Nat.testBit_and, Nat.testBit_xor]
  have e1 : (4294967295 : Nat) = 2 ^ 32 - 1 := by decide
  rw [e1, Nat.testBit_two_pow_sub_one]
  by_cases h : i < 32
  · cases hxi : x.testBit i <;> cases y.testBit i <;> cases z.testBit i <;> simp [h]
  · have hx0 : x.testBit i = false := Nat.testBit_lt_two_pow (Nat.lt_of_lt_of_le hx (show (4294967296 : Nat) ≤ 2 ^ i from Nat.pow_le_pow_right (n := 2) (by omega) (show 32 ≤ i by omega)))
    rw [hx0]; simp [h]
theorem majr_int (x y z : Nat) (hx : x < 4294967296) (hy : y < 4294967296) (hz : z < 4294967296) : Go.bits .or .u32 (Go.bits .or .u32 (Go.bits .and .u32 (x : Int) (y : Int)) (Go.bits .and .u32 (x : Int) (z : Int))) (Go.bits .and .u32 (y : Int) (z : Int)) = ((maj x y z : Nat) : Int) := by
  have h1 : x &&& y < 4294967296 := Nat.lt_of_le_of_lt Nat.and_le_left hx
  have h2 : x &&& z < 4294967296 := Nat.lt_of_le_of_lt Nat.and_le_left hx
  have h3 : y &&& z < 4294967296 := Nat.lt_of_le_of_lt Nat.and_le_left hy
  rw [u32_and_nat x y hx hy, u32_and_nat x z hx hz, u32_and_nat y z hy hz, u32_or_nat _ _ h1 h2, u32_or_nat _ _ (or_lt _ _ h1 h2) h3]
  congr 1
  unfold maj
  apply Nat.eq_of_testBit_eq
  intro i
  rw [Nat.testBit_or, Nat.testBit_or, Nat.testBit_xor, Nat.testBit_xor, Nat.testBit_and, Nat.testBit_and, Nat.testBit_and]
  cases x.testBit i <;> cases y.testBit i <;> cases z.testBit i <;> rfl
theorem chr_nat (x y z : Nat) (hx : x < 4294967296) (hy : y < 4294967296) (hz : z < 4294967296) : (x &&& y) ||| ((4294967295 - x) &&& z) = chf x y z := by
  have h1 : x &&& y < 4294967296 := Nat.lt_of_le_of_lt Nat.and_le_left hx
  have h2 : (4294967295 - x) &&& z < 4294967296 := Nat.lt_of_le_of_lt Nat.and_le_right hz
  have h := chr_int x y z hx hy hz
  rw [u32_and_nat x y hx hy, u32_and_nat _ z (by omega) hz, u32_or_nat _ _ h1 h2] at h
  exact Int.ofNat.inj h
theorem majr_nat (x y z : Nat) (hx : x < 4294967296) (hy : y < 4294967296) (hz : z < 4294967296) : ((x &&& y) ||| (x &&& z)) ||| (y &&& z) = maj x y z := by
  have h1 : x &&& y < 4294967296 := Nat.lt_of_le_of_lt Nat.and_le_left hx
  have h2 : x &&& z < 4294967296 := Nat.lt_of_le_of_lt Nat.and_le_left hx
  have h3 : y &&& z < 4294967296 := Nat.lt_of_le_of_lt Nat.and_le_left hy
  have h := majr_int x y z hx hy hz
  rw [u32_and_nat x y hx hy, u32_and_nat x z hx hz, u32_and_nat y z hy hz, u32_or_nat _ _ h1 h2, u32_or_nat _ _ (or_lt _ _ h1 h2) h3] at h
  exact Int.ofNat.inj h
theorem first_succ (b : List Nat) (t : Nat) : first b t ++ [word b t] = first b (t + 1) := by simp [first, List.range_succ]
theorem first_length (b : List Nat) (t : Nat) : (first b t).length = t := by simp [first]
theorem wds_length (b : List Nat) (t : Nat) : (wds b t).length = t := by
  unfold wds
  split
  · exact first_length b t
  · rw [wl_length]; omega
theorem wds_low (b : List Nat) (t : Nat) (h : t < 16) : wds b t ++ [word b t] = wds b (t + 1) := by
  unfold wds
  rw [if_pos (by omega), if_pos (by omega), first_succ]
theorem wds_high (b : List Nat) (t : Nat) (h : ¬ t < 16) : wds b t ++ [nextw (wds b t) t] = wds b (t + 1) := by
  have e : wds b t = wl b (t - 16) := by
    unfold wds
    split
    · rw [show t = 16 by omega]; rfl
    · rfl
  have e2 : wds b (t + 1) = wl b (t - 16 + 1) := by
    unfold wds
    rw [if_neg (by omega), show t + 1 - 16 = t - 16 + 1 by omega]
  rw [e, e2]
  show _ = wl b (t - 16) ++ [nextw (wl b (t - 16)) (16 + (t - 16))]
  rw [show 16 + (t - 16) = t by omega]
theorem wds_64 (b : List Nat) : wds b 64 = wl b 48 := rfl
/-- blocks i of a text, taken in one after the other -/
def blocks (s : H8) (T : List Nat) : Nat → H8
  | 0 => s
  | i + 1 => comp (blocks s T i) ((T.drop (64 * i)).take 64)
theorem run_blocks : ∀ (n : Nat) (s : H8) (T : List Nat), T.length = 64 * n → (run s T).1 = blocks s T n := by
  intro n
  induction n with
  | zero => intro s T h; rw [run_end s T (by omega)]; rfl
  | succ n ih =>
    intro s T h
    have e : T = T.take (64 * n) ++ T.drop (64 * n) := (List.take_append_drop _ _).symm
    have hl : (T.take (64 * n)).length = 64 * n := by rw [List.length_take]; omega
    have hd : (T.drop (64 * n)).length = 64 := by rw [List.length_drop]; omega
    have hb : ∀ i, i ≤ n → blocks s (T.take (64 * n)) i = blocks s T i := by
      intro i
      induction i with
      | zero => intro _; rfl
      | succ i ih2 =>
        intro hi
        show comp _ _ = comp _ _
        rw [ih2 (by omega), List.drop_take, List.take_take, show min 64 (64 * n - 64 * i) = 64 by omega]
    have hr : (run s (T.take (64 * n))).2 = [] := by
      have h1 := run_len (64 * n) s (T.take (64 * n)) (by omega)
      rw [hl] at h1
      exact List.eq_nil_of_length_eq_zero (by omega)
    rw [e, run_append (64 * n) s _ _ (by omega), hr, List.nil_append, run_step _ _ (by omega), ih s _ hl, hb n (Nat.le_refl _), ← e]
    rw [run_end _ _ (by rw [List.length_drop]; omega)]
    rfl
end Go.Proofs.Ytojlhmmmiebbmaa.PNonceLists
