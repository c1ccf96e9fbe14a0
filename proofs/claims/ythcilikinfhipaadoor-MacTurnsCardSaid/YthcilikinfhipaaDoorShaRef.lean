/- The reference's words and its 64 rounds are those of the definition. -/
import Derived.Test.YthcilikinfhipaaDoorShaN
import Derived.Test.YthcilikinfhipaaDoorPBasex2
set_option linter.unusedVariables false
set_option linter.unusedSimpArgs false
namespace Go.Proofs.YthcilikinfhipaaDoor
open Go.RowKit Go.Proofs.YthcilikinfhipaaDoorW.PrintWords
namespace Sh
open PBase
theorem rref_7 (v : Int) : coamingref02_ror.f v 7 = some (rot v 7) := by rw [rot, bits_or_comm]; kernel_rfl
theorem rref_18 (v : Int) : coamingref02_ror.f v 18 = some (rot v 18) := by rw [rot, bits_or_comm]; kernel_rfl
theorem rref_17 (v : Int) : coamingref02_ror.f v 17 = some (rot v 17) := by rw [rot, bits_or_comm]; kernel_rfl
theorem rref_19 (v : Int) : coamingref02_ror.f v 19 = some (rot v 19) := by rw [rot, bits_or_comm]; kernel_rfl
theorem rref_6 (v : Int) : coamingref02_ror.f v 6 = some (rot v 6) := by rw [rot, bits_or_comm]; kernel_rfl
theorem rref_11 (v : Int) : coamingref02_ror.f v 11 = some (rot v 11) := by rw [rot, bits_or_comm]; kernel_rfl
theorem rref_25 (v : Int) : coamingref02_ror.f v 25 = some (rot v 25) := by rw [rot, bits_or_comm]; kernel_rfl
theorem rref_2 (v : Int) : coamingref02_ror.f v 2 = some (rot v 2) := by rw [rot, bits_or_comm]; kernel_rfl
theorem rref_13 (v : Int) : coamingref02_ror.f v 13 = some (rot v 13) := by rw [rot, bits_or_comm]; kernel_rfl
theorem rref_22 (v : Int) : coamingref02_ror.f v 22 = some (rot v 22) := by rw [rot, bits_or_comm]; kernel_rfl
theorem rd_nat (l : List Int) (i : Nat) : rd l (i : Int) = l.getD i 0 := by simp [rd, List.getD_eq_getElem?_getD]
theorem byte_at {p : List Int} (hp : p.length = 64) (hb : Bytes p) (i : Nat) (hi : i < 64) : 0 ≤ p.getD i 0 ∧ p.getD i 0 ≤ 255 := by
  rw [List.getD_eq_getElem?_getD, List.getElem?_eq_getElem (by omega)]
  exact hb _ (List.getElem_mem _)
theorem w64 (x : Int) (h0 : -9223372036854775808 ≤ x) (h1 : x < 9223372036854775808) : wrap64 x = x := by unfold wrap64; omega
theorem l1_step (p : List Int) (hp : p.length = 64) (hb : Bytes p) (w : List Int) (t j : Nat) (ht : t < 16) (hj : j < 4) (x : Int) (hx0 : 0 ≤ x) (hx1 : x < 16777216) (k : Nat) :
    coamingref02_words.l1 (k + 1) p w t x j = coamingref02_words.l1 k p w t (x * 256 + p.getD (4 * t + j) 0) ((j + 1 : Nat) : Int) := by
  have e1 : wrap64 (wrap64 (4 * (t : Int)) + j) = ((4 * t + j : Nat) : Int) := by rw [w64 (4 * (t : Int)) (by omega) (by omega), w64 _ (by omega) (by omega)]; omega
  have e2 : wrap64 ((j : Int) + 1) = ((j + 1 : Nat) : Int) := by rw [w64 _ (by omega) (by omega)]; omega
  obtain ⟨b0, b1⟩ := byte_at hp hb (4 * t + j) (by omega)
  rw [coamingref02_words.l1, if_pos (by omega), e1, if_pos (by omega), if_pos (by rw [hp]; omega), rd_nat, e2]
  generalize p.getD (4 * t + j) 0 = y at *
  rw [show x * 256 % 4294967296 = x * 256 by omega, show y % 4294967296 = y by omega, Bt.or_u32 8 (x * 256) y (by omega) (by omega) (by omega) (by omega) (by omega) (by omega)]
theorem l1_all (p : List Int) (hp : p.length = 64) (hb : Bytes p) (w : List Int) (hw : w.length < 64) (t : Nat) (ht : t < 16) (k : Nat) :
    coamingref02_words.l1 (k + 5) p w t 0 0 = coamingref02_words.l0 k p (w ++ [four p t]) ((t + 1 : Nat) : Int) := by
  obtain ⟨a0, b0⟩ := byte_at hp hb (4 * t) (by omega)
  obtain ⟨a1, b1⟩ := byte_at hp hb (4 * t + 1) (by omega)
  obtain ⟨a2, b2⟩ := byte_at hp hb (4 * t + 2) (by omega)
  have s0 := l1_step p hp hb w t 0 ht (by omega) 0 (by omega) (by omega) (k + 4)
  have s1 := l1_step p hp hb w t 1 ht (by omega) (0 * 256 + p.getD (4 * t + 0) 0) (by rw [Nat.add_zero]; omega) (by rw [Nat.add_zero]; omega) (k + 3)
  have s2 := l1_step p hp hb w t 2 ht (by omega) ((0 * 256 + p.getD (4 * t + 0) 0) * 256 + p.getD (4 * t + 1) 0) (by rw [Nat.add_zero]; omega) (by rw [Nat.add_zero]; omega) (k + 2)
  have s3 := l1_step p hp hb w t 3 ht (by omega) (((0 * 256 + p.getD (4 * t + 0) 0) * 256 + p.getD (4 * t + 1) 0) * 256 + p.getD (4 * t + 2) 0) (by rw [Nat.add_zero]; omega) (by rw [Nat.add_zero]; omega) (k + 1)
  refine s0.trans (s1.trans (s2.trans (s3.trans ?_)))
  rw [coamingref02_words.l1, if_neg (by omega), if_pos (by omega), w64 _ (by omega) (by omega)]
  congr 3
  unfold four
  rw [Nat.add_zero]
  omega
theorem l0_next (p w : List Int) (t : Nat) (hw : w.length = t) (h16 : 16 ≤ t) (ht : t < 64) (k : Nat) :
    coamingref02_words.l0 (k + 1) p w t = coamingref02_words.l0 k p (w ++ [next w t]) ((t + 1 : Nat) : Int) := by
  have e15 : wrap64 ((t : Int) - 15) = ((t - 15 : Nat) : Int) := by rw [w64 _ (by omega) (by omega)]; omega
  have e2 : wrap64 ((t : Int) - 2) = ((t - 2 : Nat) : Int) := by rw [w64 _ (by omega) (by omega)]; omega
  have e16 : wrap64 ((t : Int) - 16) = ((t - 16 : Nat) : Int) := by rw [w64 _ (by omega) (by omega)]; omega
  have e7 : wrap64 ((t : Int) - 7) = ((t - 7 : Nat) : Int) := by rw [w64 _ (by omega) (by omega)]; omega
  have e1 : wrap64 ((t : Int) + 1) = ((t + 1 : Nat) : Int) := by rw [w64 _ (by omega) (by omega)]; omega
  rw [coamingref02_words.l0, e15, e2, e16, e7, e1]
  clear e15 e2 e16 e7 e1
  rw [if_pos (by omega), if_neg (by omega), if_pos (by omega), if_pos (by omega), if_pos (by omega), if_pos (by omega), if_pos (by omega), if_pos (by omega),
    rref_7, rref_18, rref_17, rref_19]
  simp only [Option.bind_some]
  rw [if_pos (by omega), if_pos (by omega), if_pos (by omega), rd_nat, rd_nat, rd_nat, rd_nat]
  unfold next m32 s0 s1
  rfl
theorem words_is (p : List Int) (hp : p.length = 64) (hb : Bytes p) : ∀ (d t k : Nat), t + d = 64 → 6 * d < k → coamingref02_words.l0 k p (words p t) t = some (words p 64)
  | 0, t, k, h, hk => by
    obtain ⟨k, rfl⟩ : ∃ m, k = m + 1 := ⟨k - 1, by omega⟩
    obtain rfl : t = 64 := by omega
    rw [coamingref02_words.l0, if_neg (by omega)]
  | d + 1, t, k, h, hk => by
    by_cases h16 : t < 16
    · obtain ⟨k, rfl⟩ : ∃ m, k = m + 5 + 1 := ⟨k - 6, by omega⟩
      rw [coamingref02_words.l0, if_pos (by omega), if_pos (by omega), l1_all p hp hb _ (by rw [words_length]; omega) t h16]
      have := words_is p hp hb d (t + 1) k (by omega) (by omega)
      rwa [words, if_pos h16] at this
    · obtain ⟨k, rfl⟩ : ∃ m, k = m + 1 := ⟨k - 1, by omega⟩
      rw [l0_next p _ t (words_length p t) (by omega) (by omega)]
      have := words_is p hp hb d (t + 1) k (by omega) (by omega)
      rwa [words, if_neg h16] at this
/-- bits that are not in e -/
theorem not_and (e g : Int) : bits .and .u32 (bits .xor .u32 IntKind.u32.max e) g = bits .andNot .u32 g e := by
  have h : BitVec.ofInt IntKind.u32.bits (bits .xor .u32 IntKind.u32.max e) = ~~~ (BitVec.ofInt IntKind.u32.bits e) := by
    show BitVec.ofInt 32 (IntKind.u32.wrap ((BitVec.ofInt 32 4294967295 ^^^ BitVec.ofInt 32 e).toNat : Int)) = ~~~ (BitVec.ofInt 32 e)
    have hall : BitVec.ofInt 32 4294967295 ^^^ BitVec.ofInt 32 e = ~~~ (BitVec.ofInt 32 e) := by
      rw [show BitVec.ofInt 32 4294967295 = BitVec.allOnes 32 from rfl, BitVec.allOnes_xor]
    rw [hall, IntKind.wrap_u32]
    generalize ~~~ (BitVec.ofInt 32 e) = x
    have := x.isLt
    rw [show ((x.toNat : Int) % 4294967296) = (x.toNat : Int) by omega]
    apply BitVec.eq_of_toNat_eq
    rw [BitVec.ofInt_natCast, BitVec.toNat_ofNat]
    exact Nat.mod_eq_of_lt this
  unfold bits at h ⊢
  simp only at h ⊢
  rw [h, BitVec.and_comm]
theorem keys_is : coamingref02_keys.f = some keys := rfl
theorem v_at (v : V) : rd v.list 0 = v.a ∧ rd v.list 1 = v.b ∧ rd v.list 2 = v.c ∧ rd v.list 3 = v.d ∧ rd v.list 4 = v.e ∧ rd v.list 5 = v.f ∧ rd v.list 6 = v.g ∧ rd v.list 7 = v.h := ⟨rfl, rfl, rfl, rfl, rfl, rfl, rfl, rfl⟩
theorem more_round (s0 ws ks : List Int) (v : V) (t : Nat) (ht : t < 64) (hw : ws.length = 64) (hk : ks.length = 64) (k : Nat) :
    coamingref02_more.l0 (k + 1) s0 ws ks v.list t = coamingref02_more.l0 k s0 ws ks (v.rnd (ks.getD t 0) (ws.getD t 0)).list ((t + 1 : Nat) : Int) := by
  have e1 : wrap64 ((t : Int) + 1) = ((t + 1 : Nat) : Int) := by rw [w64 _ (by omega) (by omega)]; omega
  obtain ⟨ra, rb, rc, rdd, re, rf, rg, rh⟩ := v_at v
  have hl : (v.list.length : Int) = 8 := rfl
  rw [coamingref02_more.l0, e1, ra, rb, rc, rdd, re, rf, rg, rh, hl, rref_6, rref_11, rref_25, rref_2, rref_13, rref_22, not_and, rd_nat, rd_nat]
  clear e1 ra rb rc rdd re rf rg rh
  simp only [Option.bind_some]
  rw [if_pos (by omega), if_pos (by omega), if_pos (by omega), if_pos (by omega), if_pos (by omega), if_pos (by omega), if_pos (by omega), if_pos (by omega), if_pos (by omega), if_pos (by omega), if_pos (by omega), if_pos (by omega)]
  rfl
theorem more_rounds (s0 ws : List Int) (s : V) (hw : ws.length = 64) : ∀ (d t k : Nat), t + d = 64 → coamingref02_more.l0 (k + d) s0 ws keys (rounds ws s t).list t = coamingref02_more.l0 k s0 ws keys (rounds ws s 64).list 64
  | 0, t, k, h => by
    obtain rfl : t = 64 := by omega
    rfl
  | d + 1, t, k, h => by
    rw [← Nat.add_assoc, more_round _ _ _ _ t (by omega) hw rfl]
    have := more_rounds s0 ws s hw d (t + 1) k (by omega)
    rwa [rounds] at this
theorem add_step (x0 x7 : List Int) (j : Nat) (hj : j < 8) (h0 : x0.length = 8) (h7 : x7.length = 8) (k : Nat) :
    coamingref02_more.l1 (k + 1) x0 x7 j = coamingref02_more.l1 k x0 (x7.set j ((x7.getD j 0 + x0.getD j 0) % 4294967296)) ((j + 1 : Nat) : Int) := by
  have e1 : wrap64 ((j : Int) + 1) = ((j + 1 : Nat) : Int) := by rw [w64 _ (by omega) (by omega)]; omega
  rw [coamingref02_more.l1, e1]
  clear e1
  rw [if_pos (by omega), if_pos (by omega), if_pos (by omega), if_pos (by omega), rd_nat, rd_nat, Int.toNat_natCast]
theorem adds (s v : V) (k : Nat) : coamingref02_more.l1 (k + 9) s.list v.list 0 = some (v.add s).list := by
  have h := add_step s.list v.list 0 (by omega) rfl rfl (k + 8)
  have h1 := add_step s.list [(v.a + s.a) % 4294967296, v.b, v.c, v.d, v.e, v.f, v.g, v.h] 1 (by omega) rfl rfl (k + 7)
  have h2 := add_step s.list [(v.a + s.a) % 4294967296, (v.b + s.b) % 4294967296, v.c, v.d, v.e, v.f, v.g, v.h] 2 (by omega) rfl rfl (k + 6)
  have h3 := add_step s.list [(v.a + s.a) % 4294967296, (v.b + s.b) % 4294967296, (v.c + s.c) % 4294967296, v.d, v.e, v.f, v.g, v.h] 3 (by omega) rfl rfl (k + 5)
  have h4 := add_step s.list [(v.a + s.a) % 4294967296, (v.b + s.b) % 4294967296, (v.c + s.c) % 4294967296, (v.d + s.d) % 4294967296, v.e, v.f, v.g, v.h] 4 (by omega) rfl rfl (k + 4)
  have h5 := add_step s.list [(v.a + s.a) % 4294967296, (v.b + s.b) % 4294967296, (v.c + s.c) % 4294967296, (v.d + s.d) % 4294967296, (v.e + s.e) % 4294967296, v.f, v.g, v.h] 5 (by omega) rfl rfl (k + 3)
  have h6 := add_step s.list [(v.a + s.a) % 4294967296, (v.b + s.b) % 4294967296, (v.c + s.c) % 4294967296, (v.d + s.d) % 4294967296, (v.e + s.e) % 4294967296, (v.f + s.f) % 4294967296, v.g, v.h] 6 (by omega) rfl rfl (k + 2)
  have h7 := add_step s.list [(v.a + s.a) % 4294967296, (v.b + s.b) % 4294967296, (v.c + s.c) % 4294967296, (v.d + s.d) % 4294967296, (v.e + s.e) % 4294967296, (v.f + s.f) % 4294967296, (v.g + s.g) % 4294967296, v.h] 7 (by omega) rfl rfl (k + 1)
  refine h.trans (h1.trans (h2.trans (h3.trans (h4.trans (h5.trans (h6.trans (h7.trans ?_)))))))
  rw [coamingref02_more.l1, if_neg (by omega)]
  show some [(v.a + s.a) % 4294967296, (v.b + s.b) % 4294967296, (v.c + s.c) % 4294967296, (v.d + s.d) % 4294967296, (v.e + s.e) % 4294967296, (v.f + s.f) % 4294967296, (v.g + s.g) % 4294967296, (v.h + s.h) % 4294967296] = some (v.add s).list
  unfold V.list V.add m32
  simp only [Int.add_comm]
theorem more_is (s : V) (p : List Int) (hp : p.length = 64) (hb : Bytes p) (k : Nat) (hk : 1000 ≤ k) : coamingref02_more.f k s.list p = some (comp s p).list := by
  have hw := words_is p hp hb 64 0 k (by omega) (by omega)
  rw [coamingref02_more.f, show coamingref02_words.f k p = some (words p 64) from hw, keys_is]
  simp only [Option.bind_some]
  rw [if_pos (by show ([] : List Int).length + 8 < _; decide), List.nil_append]
  obtain ⟨k, rfl⟩ : ∃ m, k = m + 9 + 1 + 64 := ⟨k - 74, by omega⟩
  have h1 := more_rounds s.list (words p 64) s (words_length p 64) 64 0 (k + 9 + 1) (by omega)
  refine h1.trans ?_
  rw [coamingref02_more.l0, if_neg (by omega), adds, comp]
end Sh
end Go.Proofs.YthcilikinfhipaaDoor
