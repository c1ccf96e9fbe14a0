/- SHA-256 over whole numbers, by definition, and what one who takes bytes piece by piece keeps of them. -/
import Derived.Laws.BitsLemmas
set_option linter.unusedVariables false
set_option linter.unusedSimpArgs false
namespace Go.Proofs.YthcilikinfhipaaDoor.Sh

/-- turned round to the right, in 32 bits -/
def rot (v : Int) (n : Nat) : Int := bits .or .u32 (IntKind.u32.wrap (v * 2 ^ (32 - n))) (v / 2 ^ n)
def m32 (x : Int) : Int := x % 4294967296
def s0 (a : Int) : Int := bits .xor .u32 (bits .xor .u32 (rot a 7) (rot a 18)) (a / 8)
def s1 (b : Int) : Int := bits .xor .u32 (bits .xor .u32 (rot b 17) (rot b 19)) (b / 1024)
def keys : List Int := [
  0x428a2f98, 0x71374491, 0xb5c0fbcf, 0xe9b5dba5, 0x3956c25b, 0x59f111f1, 0x923f82a4, 0xab1c5ed5,
  0xd807aa98, 0x12835b01, 0x243185be, 0x550c7dc3, 0x72be5d74, 0x80deb1fe, 0x9bdc06a7, 0xc19bf174,
  0xe49b69c1, 0xefbe4786, 0x0fc19dc6, 0x240ca1cc, 0x2de92c6f, 0x4a7484aa, 0x5cb0a9dc, 0x76f988da,
  0x983e5152, 0xa831c66d, 0xb00327c8, 0xbf597fc7, 0xc6e00bf3, 0xd5a79147, 0x06ca6351, 0x14292967,
  0x27b70a85, 0x2e1b2138, 0x4d2c6dfc, 0x53380d13, 0x650a7354, 0x766a0abb, 0x81c2c92e, 0x92722c85,
  0xa2bfe8a1, 0xa81a664b, 0xc24b8b70, 0xc76c51a3, 0xd192e819, 0xd6990624, 0xf40e3585, 0x106aa070,
  0x19a4c116, 0x1e376c08, 0x2748774c, 0x34b0bcb5, 0x391c0cb3, 0x4ed8aa4a, 0x5b9cca4f, 0x682e6ff3,
  0x748f82ee, 0x78a5636f, 0x84c87814, 0x8cc70208, 0x90befffa, 0xa4506ceb, 0xbef9a3f7, 0xc67178f2]
def st0 : List Int := [0x6a09e667, 0xbb67ae85, 0x3c6ef372, 0xa54ff53a, 0x510e527f, 0x9b05688c, 0x1f83d9ab, 0x5be0cd19]
/-- four bytes are a number -/
def four (p : List Int) (t : Nat) : Int := p.getD (4 * t) 0 * 16777216 + p.getD (4 * t + 1) 0 * 65536 + p.getD (4 * t + 2) 0 * 256 + p.getD (4 * t + 3) 0
def next (w : List Int) (t : Nat) : Int := m32 (m32 (m32 (w.getD (t - 16) 0 + s0 (w.getD (t - 15) 0)) + w.getD (t - 7) 0) + s1 (w.getD (t - 2) 0))
/-- the first words of a block -/
def words (p : List Int) : Nat → List Int
  | 0 => []
  | t + 1 => words p t ++ [if t < 16 then four p t else next (words p t) t]
def big1 (e : Int) : Int := bits .xor .u32 (bits .xor .u32 (rot e 6) (rot e 11)) (rot e 25)
def big0 (a : Int) : Int := bits .xor .u32 (bits .xor .u32 (rot a 2) (rot a 13)) (rot a 22)
def ch (e f g : Int) : Int := bits .xor .u32 (bits .and .u32 e f) (bits .andNot .u32 g e)
def maj (a b c : Int) : Int := bits .xor .u32 (bits .xor .u32 (bits .and .u32 a b) (bits .and .u32 a c)) (bits .and .u32 b c)
/-- the eight numbers -/
structure V where
  (a b c d e f g h : Int)
def V.x (v : V) (k w : Int) : Int := m32 (m32 (m32 (m32 (v.h + big1 v.e) + ch v.e v.f v.g) + k) + w)
def V.y (v : V) : Int := m32 (big0 v.a + maj v.a v.b v.c)
def V.rnd (v : V) (k w : Int) : V := ⟨m32 (v.x k w + v.y), v.a, v.b, v.c, m32 (v.d + v.x k w), v.e, v.f, v.g⟩
def V.list (v : V) : List Int := [v.a, v.b, v.c, v.d, v.e, v.f, v.g, v.h]
def V.add (v s : V) : V := ⟨m32 (s.a + v.a), m32 (s.b + v.b), m32 (s.c + v.c), m32 (s.d + v.d), m32 (s.e + v.e), m32 (s.f + v.f), m32 (s.g + v.g), m32 (s.h + v.h)⟩
def v0 : V := ⟨0x6a09e667, 0xbb67ae85, 0x3c6ef372, 0xa54ff53a, 0x510e527f, 0x9b05688c, 0x1f83d9ab, 0x5be0cd19⟩
def rounds (ws : List Int) (v : V) : Nat → V
  | 0 => v
  | t + 1 => (rounds ws v t).rnd (keys.getD t 0) (ws.getD t 0)
/-- what a block makes of the eight numbers -/
def comp (s : V) (p : List Int) : V := (rounds (words p 64) s 64).add s
/-- what the first k blocks make of them -/
def feed (bs : List Int) : Nat → V
  | 0 => v0
  | k + 1 => comp (feed bs k) ((bs.drop (64 * k)).take 64)
def state (bs : List Int) : V := feed bs (bs.length / 64)
def tail (bs : List Int) : List Int := bs.drop (64 * (bs.length / 64))
def be8 (x : Int) : List Int := (List.range 8).map fun i => x / 2 ^ (56 - 8 * i) % 256
def zeros (n : Nat) : Nat := (119 - n % 64) % 64
def padded (bs : List Int) : List Int := bs ++ [128] ++ List.replicate (zeros bs.length) 0 ++ be8 (bs.length * 8)
def outs (s : V) : List Int := (List.range 32).map fun i => s.list.getD (i / 4) 0 / 2 ^ (24 - i % 4 * 8) % 256
def dig (bs : List Int) : List Int := outs (state (padded bs))
abbrev Bytes (l : List Int) : Prop := ∀ x ∈ l, 0 ≤ x ∧ x ≤ 255

theorem words_length (p : List Int) (t : Nat) : (words p t).length = t := by
  induction t with
  | zero => rfl
  | succ t ih => simp [words, ih]
theorem words_prefix (p : List Int) (t k : Nat) (h : t ≤ k) : (words p k).take t = words p t := by
  induction k with
  | zero => obtain rfl : t = 0 := by omega
            rfl
  | succ k ih =>
    by_cases ht : t = k + 1
    · subst ht
      rw [List.take_of_length_le (by rw [words_length]; exact Nat.le_refl _)]
    · rw [words, List.take_append_of_le_length (by rw [words_length]; omega), ih (by omega)]
theorem words_at (p : List Int) (t k i : Nat) (h : t ≤ k) (hi : i < t) : (words p k).getD i 0 = (words p t).getD i 0 := by
  rw [← words_prefix p t k h, List.getD_eq_getElem?_getD, List.getD_eq_getElem?_getD, List.getElem?_take, if_pos hi]

theorem feed_app (bs c : List Int) (k : Nat) (h : 64 * k ≤ bs.length) : feed (bs ++ c) k = feed bs k := by
  induction k with
  | zero => rfl
  | succ k ih =>
    rw [feed, feed, ih (by omega), List.drop_append_of_le_length (by omega), List.take_append_of_le_length (by rw [List.length_drop]; omega)]
theorem tail_length (bs : List Int) : (tail bs).length = bs.length % 64 := by
  rw [tail, List.length_drop]; omega
/-- a piece that fills the block -/
theorem state_full (bs c : List Int) (h : bs.length % 64 + c.length = 64) : state (bs ++ c) = comp (state bs) (tail bs ++ c) ∧ tail (bs ++ c) = [] := by
  have e : (bs ++ c).length / 64 = bs.length / 64 + 1 := by rw [List.length_append]; omega
  constructor
  · unfold state
    rw [e, feed, feed_app _ _ _ (by omega), List.drop_append_of_le_length (by omega)]
    congr 1
    rw [List.take_of_length_le]
    · rfl
    · rw [List.length_append, List.length_drop]; omega
  · unfold tail
    rw [e]
    exact List.drop_of_length_le (by rw [List.length_append]; omega)
/-- a piece that does not -/
theorem state_part (bs c : List Int) (h : bs.length % 64 + c.length < 64) : state (bs ++ c) = state bs ∧ tail (bs ++ c) = tail bs ++ c := by
  have e : (bs ++ c).length / 64 = bs.length / 64 := by rw [List.length_append]; omega
  constructor
  · unfold state
    rw [e, feed_app _ _ _ (by omega)]
  · unfold tail
    rw [e, List.drop_append_of_le_length (by omega)]
theorem list_length (v : V) : v.list.length = 8 := rfl
theorem be8_length (x : Int) : (be8 x).length = 8 := by simp [be8]
theorem outs_length (s : V) : (outs s).length = 32 := by simp [outs]
theorem padded_length (bs : List Int) : (padded bs).length % 64 = 0 := by
  simp only [padded, List.length_append, be8_length, List.length_replicate, List.length_cons, List.length_nil, zeros]
  omega
theorem be8_bytes (x : Int) (h : 0 ≤ x) : Bytes (be8 x) := by
  intro y hy
  simp only [be8, List.mem_map] at hy
  obtain ⟨i, _, rfl⟩ := hy
  omega
theorem padded_bytes (bs : List Int) (h : Bytes bs) : Bytes (padded bs) := by
  intro y hy
  simp only [padded, List.mem_append, List.mem_cons, List.not_mem_nil, or_false, List.mem_replicate] at hy
  rcases hy with ((hy | rfl) | ⟨_, rfl⟩) | hy
  · exact h y hy
  · omega
  · omega
  · exact be8_bytes _ (by omega) y hy

/-- the order of two pieces makes no difference -/
theorem bits_or_comm (k : IntKind) (x y : Int) : bits .or k x y = bits .or k y x := by simp only [bits, BitVec.or_comm]
theorem bits_xor_comm (k : IntKind) (x y : Int) : bits .xor k x y = bits .xor k y x := by simp only [bits, BitVec.xor_comm]
theorem bits_and_comm (k : IntKind) (x y : Int) : bits .and k x y = bits .and k y x := by simp only [bits, BitVec.and_comm]
end Go.Proofs.YthcilikinfhipaaDoor.Sh
