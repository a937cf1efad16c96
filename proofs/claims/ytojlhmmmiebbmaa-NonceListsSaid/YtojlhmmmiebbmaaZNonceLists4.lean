/- What the proof of NonceLists is made of, part 4. -/
namespace Go.Proofs.Ytojlhmmmiebbmaa.Sha
set_option linter.unusedVariables false
set_option linter.unusedSimpArgs false
def rotr (x a : Nat) : Nat := x / 2 ^ a + (x % 2 ^ a) * 2 ^ (32 - a)
def sm0 (x : Nat) : Nat := (rotr x 7 ^^^ rotr x 18) ^^^ (x / 8)
def sm1 (x : Nat) : Nat := (rotr x 17 ^^^ rotr x 19) ^^^ (x / 1024)
def bg0 (x : Nat) : Nat := (rotr x 2 ^^^ rotr x 13) ^^^ rotr x 22
def bg1 (x : Nat) : Nat := (rotr x 6 ^^^ rotr x 11) ^^^ rotr x 25
def chf (x y z : Nat) : Nat := (x &&& y) ^^^ ((4294967295 - x) &&& z)
def maj (x y z : Nat) : Nat := ((x &&& y) ^^^ (x &&& z)) ^^^ (y &&& z)
def add2 (a b : Nat) : Nat := (a + b) % 4294967296
/-- four bytes of a text, as a word -/
def word (b : List Nat) (i : Nat) : Nat := b.getD (4 * i) 0 * 16777216 + b.getD (4 * i + 1) 0 * 65536 + b.getD (4 * i + 2) 0 * 256 + b.getD (4 * i + 3) 0
def first (b : List Nat) (n : Nat) : List Nat := (List.range n).map (word b)
def nextw (l : List Nat) (t : Nat) : Nat := add2 (add2 (add2 (sm1 (l.getD (t - 2) 0)) (l.getD (t - 7) 0)) (sm0 (l.getD (t - 15) 0))) (l.getD (t - 16) 0)
/-- the first 16 + n words of a block -/
def wl (b : List Nat) : Nat → List Nat
  | 0 => first b 16
  | n + 1 => wl b n ++ [nextw (wl b n) (16 + n)]
def Ks : List Nat := [
  0x428a2f98, 0x71374491, 0xb5c0fbcf, 0xe9b5dba5, 0x3956c25b, 0x59f111f1, 0x923f82a4, 0xab1c5ed5, 0xd807aa98, 0x12835b01, 0x243185be, 0x550c7dc3, 0x72be5d74, 0x80deb1fe, 0x9bdc06a7, 0xc19bf174,
  0xe49b69c1, 0xefbe4786, 0x0fc19dc6, 0x240ca1cc, 0x2de92c6f, 0x4a7484aa, 0x5cb0a9dc, 0x76f988da, 0x983e5152, 0xa831c66d, 0xb00327c8, 0xbf597fc7, 0xc6e00bf3, 0xd5a79147, 0x06ca6351, 0x14292967,
  0x27b70a85, 0x2e1b2138, 0x4d2c6dfc, 0x53380d13, 0x650a7354, 0x766a0abb, 0x81c2c92e, 0x92722c85, 0xa2bfe8a1, 0xa81a664b, 0xc24b8b70, 0xc76c51a3, 0xd192e819, 0xd6990624, 0xf40e3585, 0x106aa070,
  0x19a4c116, 0x1e376c08, 0x2748774c, 0x34b0bcb5, 0x391c0cb3, 0x4ed8aa4a, 0x5b9cca4f, 0x682e6ff3, 0x748f82ee, 0x78a5636f, 0x84c87814, 0x8cc70208, 0x90befffa, 0xa4506ceb, 0xbef9a3f7, 0xc67178f2]
structure H8 where
  (a b c d e f g h : Nat)
def H8.list (s : H8) : List Nat := [s.a, s.b, s.c, s.d, s.e, s.f, s.g, s.h]
def IV : H8 := ⟨0x6a09e667, 0xbb67ae85, 0x3c6ef372, 0xa54ff53a, 0x510e527f, 0x9b05688c, 0x1f83d9ab, 0x5be0cd19⟩
def step (s : H8) (k w : Nat) : H8 :=
  let t1 := add2 (add2 (add2 (add2 s.h (bg1 s.e)) (chf s.e s.f s.g)) k) w
  let t2 := add2 (bg0 s.a) (maj s.a s.b s.c)
  ⟨add2 t1 t2, s.a, s.b, s.c, add2 s.d t1, s.e, s.f, s.g⟩
/-- n rounds -/
def rounds (s : H8) (W : List Nat) : Nat → H8
  | 0 => s
  | n + 1 => step (rounds s W n) (Ks.getD n 0) (W.getD n 0)
def H8.add (s t : H8) : H8 := ⟨add2 s.a t.a, add2 s.b t.b, add2 s.c t.c, add2 s.d t.d, add2 s.e t.e, add2 s.f t.f, add2 s.g t.g, add2 s.h t.h⟩
/-- a block taken in -/
def comp (s : H8) (b : List Nat) : H8 := s.add (rounds s (wl b 48) 64)
/-- all whole blocks taken in; what is left -/
def absorb : Nat → H8 → List Nat → H8 × List Nat
  | 0, s, b => (s, b)
  | n + 1, s, b => if 64 ≤ b.length then absorb n (comp s (b.take 64)) (b.drop 64) else (s, b)
def run (s : H8) (b : List Nat) : H8 × List Nat := absorb (b.length + 1) s b
theorem absorb_more : ∀ (n m : Nat) (s : H8) (b : List Nat), b.length < n → b.length < m → absorb n s b = absorb m s b := by
  intro n
  induction n with
  | zero => intro m s b h; omega
  | succ n ih =>
    intro m s b h1 h2
    cases m with
    | zero => omega
    | succ m =>
      simp only [absorb]
      split
      · exact ih m _ _ (by rw [List.length_drop]; omega) (by rw [List.length_drop]; omega)
      · rfl
theorem run_step (s : H8) (b : List Nat) (h : 64 ≤ b.length) : run s b = run (comp s (b.take 64)) (b.drop 64) := by
  show absorb (b.length + 1) s b = absorb ((b.drop 64).length + 1) _ _
  simp only [absorb]
  rw [if_pos h]
  exact absorb_more b.length ((b.drop 64).length + 1) _ _ (by rw [List.length_drop]; omega) (by omega)
theorem run_end (s : H8) (b : List Nat) (h : ¬ 64 ≤ b.length) : run s b = (s, b) := by
  show absorb (b.length + 1) s b = _
  simp only [absorb]
  rw [if_neg h]
theorem run_rest : ∀ (n : Nat) (s : H8) (b : List Nat), b.length ≤ n → (run s b).2.length < 64 := by
  intro n
  induction n with
  | zero => intro s b h; rw [run_end s b (by omega)]; show b.length < 64; omega
  | succ n ih =>
    intro s b h
    by_cases hb : 64 ≤ b.length
    · rw [run_step s b hb]; exact ih _ _ (by rw [List.length_drop]; omega)
    · rw [run_end s b hb]; show b.length < 64; omega
theorem run_append : ∀ (n : Nat) (s : H8) (a b : List Nat), a.length ≤ n → run s (a ++ b) = run (run s a).1 ((run s a).2 ++ b) := by
  intro n
  induction n with
  | zero =>
    intro s a b h
    have : a = [] := List.length_eq_zero_iff.1 (by omega)
    subst this
    rw [run_end s [] (by simp)]
  | succ n ih =>
    intro s a b h
    by_cases ha : 64 ≤ a.length
    · rw [run_step s (a ++ b) (by rw [List.length_append]; omega), run_step s a ha, List.take_append_of_le_length ha, List.drop_append_of_le_length ha]
      exact ih _ _ _ (by rw [List.length_drop]; omega)
    · rw [run_end s a ha]
/-- what is put behind a text of n bytes -/
def pad (n : Nat) : List Nat := 128 :: List.replicate ((119 - n % 64) % 64) 0 ++ [8 * n / 72057594037927936 % 256, 8 * n / 281474976710656 % 256, 8 * n / 1099511627776 % 256, 8 * n / 4294967296 % 256, 8 * n / 16777216 % 256, 8 * n / 65536 % 256, 8 * n / 256 % 256, 8 * n % 256]
def bytes4 (x : Nat) : List Nat := [x / 16777216 % 256, x / 65536 % 256, x / 256 % 256, x % 256]
def H8.bytes (s : H8) : List Nat := bytes4 s.a ++ bytes4 s.b ++ bytes4 s.c ++ bytes4 s.d ++ bytes4 s.e ++ bytes4 s.f ++ bytes4 s.g ++ bytes4 s.h
/-- the sum of a text -/
def sum (b : List Nat) : List Nat := (run IV (b ++ pad b.length)).1.bytes
theorem rotr_lt (x a : Nat) (hx : x < 4294967296) (ha : a ≤ 32) : rotr x a < 4294967296 := by
  unfold rotr
  have e : (4294967296 : Nat) = 2 ^ a * 2 ^ (32 - a) := by rw [← Nat.pow_add, show a + (32 - a) = 32 by omega]
  have hp : 0 < 2 ^ a := Nat.two_pow_pos a
  have h1 : x % 2 ^ a < 2 ^ a := Nat.mod_lt _ hp
  have h2 : x / 2 ^ a < 2 ^ (32 - a) := by
    apply Nat.div_lt_of_lt_mul
    rw [← e]; exact hx
  have h3 : (x % 2 ^ a + 1) * 2 ^ (32 - a) ≤ 2 ^ a * 2 ^ (32 - a) := Nat.mul_le_mul_right _ h1
  rw [← e, Nat.add_mul, Nat.one_mul] at h3
  omega
theorem add2_lt (a b : Nat) : add2 a b < 4294967296 := Nat.mod_lt _ (by omega)
end Go.Proofs.Ytojlhmmmiebbmaa.Sha
