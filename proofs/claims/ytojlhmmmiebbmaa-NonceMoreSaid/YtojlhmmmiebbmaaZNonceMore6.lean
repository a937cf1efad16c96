/- What the proof of NonceMore is made of, part 6. -/
import Derived.Test.YtojlhmmmiebbmaaZNonceMore3
import Derived.Test.YtojlhmmmiebbmaaZNonceMore4
import Derived.Test.YtojlhmmmiebbmaaZNonceMore5
import Derived.Outline
import Derived.Laws.Bits64
import Derived.Laws.BitsAllLaws
import Derived.BigRegion
import Derived.RegionTactic
namespace Go.Proofs.Ytojlhmmmiebbmaa.PNonceLists
open Go.RowKit Go.Proofs.YtojlhmmmiebbmaaW.PrintWords Go.Proofs.YtojlhmmmiebbmaaW.PrintLast Go.Proofs.YtojlhmmmiebbmaaW.PrintMore Go.Proofs.Ytojlhmmmiebbmaa.Sha Go.Proofs.Ytojlhmmmiebbmaa.Arr
attribute [local go_sem] max2_int min2_int max_two min_two max_three min_three max_four min_four
set_option linter.unusedVariables false
set_option linter.unusedSimpArgs false
attribute [local go_sem high] u8_w
/-- plain numbers as whole numbers -/
def cN (l : List Nat) : List Int := List.map (fun n : Nat => (n : Int)) l
theorem cN_length (l : List Nat) : (cN l).length = l.length := by simp [cN]
theorem rd_cN (l : List Nat) (i : Nat) : rd (cN l) (i : Int) = (l.getD i 0 : Nat) := by
  unfold rd cN
  rw [Int.toNat_natCast, List.getD_eq_getElem?_getD, List.getD_eq_getElem?_getD, List.getElem?_map]
  cases l[i]? <;> rfl
theorem cN_set (l : List Nat) (i v : Nat) : (cN l).set i (v : Int) = cN (l.set i v) := by simp [cN, List.map_set]
theorem rot_of (x a : Nat) (hx : x < 4294967296) (h1 : 1 ≤ a) (h2 : a ≤ 31) (hb : Go.bits .and .u64 (IntKind.u64.wrap (-(a : Int))) 31 = ((32 - a : Nat) : Int)) : bits_RotateLeft32.f (x : Int) (-(a : Int)) = some ((rotr x a : Nat) : Int) := by
  unfold bits_RotateLeft32.f
  rw [hb, if_pos (by omega)]
  have e32 : IntKind.u64.wrap (32 - ((32 - a : Nat) : Int)) = (a : Int) := by rw [IntKind.wrap_u64]; omega
  rw [e32, if_pos (by omega)]
  congr 1
  have hp : (2 : Nat) ^ (32 - a) * 2 ^ a = 4294967296 := by rw [← Nat.pow_add, show 32 - a + a = 32 by omega]
  have e1 : shl .u32 (x : Int) ((32 - a : Nat) : Int) = (((x % 2 ^ a) * 2 ^ (32 - a) : Nat) : Int) := by
    unfold shl
    rw [Int.toNat_natCast, show min (32 - a) (IntKind.u32.bits) = 32 - a by show min (32 - a) 32 = 32 - a; omega, IntKind.wrap_u32]
    have e0 : ((x : Int) * 2 ^ (32 - a)) = ((x * 2 ^ (32 - a) : Nat) : Int) := by rw [Int.natCast_mul, Int.natCast_pow]; rfl
    rw [e0]
    have e3 : x * 2 ^ (32 - a) % 4294967296 = (x % 2 ^ a) * 2 ^ (32 - a) := by
      rw [← hp, Nat.mul_comm (2 ^ (32 - a)) (2 ^ a), Nat.mul_mod_mul_right]
    rw [← e3]
    omega
  have e2 : shr .u32 (x : Int) (a : Int) = ((x / 2 ^ a : Nat) : Int) := by
    unfold shr
    rw [Int.toNat_natCast, show min a (IntKind.u32.bits) = a by show min a 32 = a; omega]
    have e0 : ((2 : Int) ^ a) = ((2 ^ a : Nat) : Int) := by rw [Int.natCast_pow]; rfl
    rw [e0]
    omega
  have hd : x / 2 ^ a < 2 ^ (32 - a) := by
    apply Nat.div_lt_of_lt_mul
    rw [Nat.mul_comm, hp]; exact hx
  have hr := rotr_lt x a hx (by omega)
  unfold rotr at hr ⊢
  have hA : (x % 2 ^ a) * 2 ^ (32 - a) < 4294967296 := Nat.lt_of_le_of_lt (Nat.le_add_left _ _) hr
  have hB : x / 2 ^ a < 4294967296 := Nat.lt_of_le_of_lt (Nat.le_add_right _ _) hr
  rw [e1, e2, u32_or_nat _ _ hA hB]
  have := Nat.two_pow_add_eq_or_of_lt (i := 32 - a) (b := x / 2 ^ a) hd (x % 2 ^ a)
  rw [Nat.mul_comm (2 ^ (32 - a))] at this
  rw [← this, Nat.add_comm]
theorem rot7 (x : Nat) (hx : x < 4294967296) : bits_RotateLeft32.f (x : Int) (-7) = some ((rotr x 7 : Nat) : Int) := rot_of x 7 hx (by omega) (by omega) (by decide +kernel)
theorem rot18 (x : Nat) (hx : x < 4294967296) : bits_RotateLeft32.f (x : Int) (-18) = some ((rotr x 18 : Nat) : Int) := rot_of x 18 hx (by omega) (by omega) (by decide +kernel)
theorem rot17 (x : Nat) (hx : x < 4294967296) : bits_RotateLeft32.f (x : Int) (-17) = some ((rotr x 17 : Nat) : Int) := rot_of x 17 hx (by omega) (by omega) (by decide +kernel)
theorem rot19 (x : Nat) (hx : x < 4294967296) : bits_RotateLeft32.f (x : Int) (-19) = some ((rotr x 19 : Nat) : Int) := rot_of x 19 hx (by omega) (by omega) (by decide +kernel)
theorem rot2 (x : Nat) (hx : x < 4294967296) : bits_RotateLeft32.f (x : Int) (-2) = some ((rotr x 2 : Nat) : Int) := rot_of x 2 hx (by omega) (by omega) (by decide +kernel)
theorem rot13 (x : Nat) (hx : x < 4294967296) : bits_RotateLeft32.f (x : Int) (-13) = some ((rotr x 13 : Nat) : Int) := rot_of x 13 hx (by omega) (by omega) (by decide +kernel)
theorem rot22 (x : Nat) (hx : x < 4294967296) : bits_RotateLeft32.f (x : Int) (-22) = some ((rotr x 22 : Nat) : Int) := rot_of x 22 hx (by omega) (by omega) (by decide +kernel)
theorem rot6 (x : Nat) (hx : x < 4294967296) : bits_RotateLeft32.f (x : Int) (-6) = some ((rotr x 6 : Nat) : Int) := rot_of x 6 hx (by omega) (by omega) (by decide +kernel)
theorem rot11 (x : Nat) (hx : x < 4294967296) : bits_RotateLeft32.f (x : Int) (-11) = some ((rotr x 11 : Nat) : Int) := rot_of x 11 hx (by omega) (by omega) (by decide +kernel)
theorem rot25 (x : Nat) (hx : x < 4294967296) : bits_RotateLeft32.f (x : Int) (-25) = some ((rotr x 25 : Nat) : Int) := rot_of x 25 hx (by omega) (by omega) (by decide +kernel)
theorem xor2 (a b : Nat) (ha : a < 4294967296) (hb : b < 4294967296) : Go.bits .xor .u32 (a : Int) (b : Int) = ((a ^^^ b : Nat) : Int) := u32_xor_nat a b ha hb
theorem xor_lt (a b : Nat) (ha : a < 4294967296) (hb : b < 4294967296) : a ^^^ b < 4294967296 := Nat.xor_lt_two_pow (n := 32) ha hb
theorem tur0 (x : Nat) (hx : x < 4294967296) : sha_turned.f (x : Int) 2 13 22 = some ((bg0 x : Nat) : Int) := by
  unfold sha_turned.f
  rw [show wrap64 (-2) = -2 by unfold wrap64; omega, show wrap64 (-13) = -13 by unfold wrap64; omega, show wrap64 (-22) = -22 by unfold wrap64; omega, rot2 x hx, rot13 x hx, rot22 x hx]
  have h1 := rotr_lt x 2 hx (by omega); have h2 := rotr_lt x 13 hx (by omega); have h3 := rotr_lt x 22 hx (by omega)
  simp only [Option.bind_some]
  rw [xor2 _ _ h1 h2, xor2 _ _ (xor_lt _ _ h1 h2) h3]
  rfl
theorem tur1 (x : Nat) (hx : x < 4294967296) : sha_turned.f (x : Int) 6 11 25 = some ((bg1 x : Nat) : Int) := by
  unfold sha_turned.f
  rw [show wrap64 (-6) = -6 by unfold wrap64; omega, show wrap64 (-11) = -11 by unfold wrap64; omega, show wrap64 (-25) = -25 by unfold wrap64; omega, rot6 x hx, rot11 x hx, rot25 x hx]
  have h1 := rotr_lt x 6 hx (by omega); have h2 := rotr_lt x 11 hx (by omega); have h3 := rotr_lt x 25 hx (by omega)
  simp only [Option.bind_some]
  rw [xor2 _ _ h1 h2, xor2 _ _ (xor_lt _ _ h1 h2) h3]
  rfl
end Go.Proofs.Ytojlhmmmiebbmaa.PNonceLists
