/- Plain lemmas on the bits of whole numbers that are not negative. -/
import Derived.Laws.BitsLemmas
namespace Go.Proofs.Ytemhlinodccokaa.Bt

theorem wraps_u64 (n : Int) (h0 : 0 ≤ n) (h1 : n < 2 ^ 64) : IntKind.u64.wrap n = n := by
  have e : IntKind.u64.wrap n = n % 18446744073709551616 := by simp [IntKind.wrap, IntKind.bits, IntKind.signed]
  rw [e]; omega
theorem wraps_u32 (n : Int) (h0 : 0 ≤ n) (h1 : n < 2 ^ 32) : IntKind.u32.wrap n = n := by rw [IntKind.wrap_u32]; omega

/-- what stands in the lower i bits goes into a number that has none there -/
theorem or_u64 (i : Nat) (x y : Int) (h0 : 0 ≤ x) (hx : x % 2 ^ i = 0) (h1 : x < 2 ^ 64) (h2 : 0 ≤ y) (h3 : y < 2 ^ i) (h4 : y < 2 ^ 64) : bits .or .u64 x y = x + y :=
  bits_join .u64 64 (by decide) wraps_u64 i x y h0 hx h1 h2 h3 h4
theorem or_u32 (i : Nat) (x y : Int) (h0 : 0 ≤ x) (hx : x % 2 ^ i = 0) (h1 : x < 2 ^ 32) (h2 : 0 ≤ y) (h3 : y < 2 ^ i) (h4 : y < 2 ^ 32) : bits .or .u32 x y = x + y :=
  bits_join .u32 32 (by decide) wraps_u32 i x y h0 hx h1 h2 h3 h4
theorem mask_u64 (i : Nat) (hi : i ≤ 64) (x : Int) (h0 : 0 ≤ x) (h1 : x < 2 ^ 64) : bits .and .u64 x (2 ^ i - 1) = x % 2 ^ i :=
  bits_mask .u64 64 (by decide) wraps_u64 i hi x h0 h1

theorem or_256 (h x : Int) (h0 : 0 ≤ h) (h1 : h < 72057594037927936) (h2 : 0 ≤ x) (h3 : x ≤ 255) : bits .or .u64 (h * 256) x = h * 256 + x :=
  or_u64 8 _ _ (by omega) (by omega) (by omega) h2 (by omega) (by omega)
theorem and_31 (x : Int) (h0 : 0 ≤ x) (h1 : x < 18446744073709551616) : bits .and .u64 x 31 = x % 32 := mask_u64 5 (by decide) x h0 (by omega)
/-- 1<<n - 1 -/
theorem low_u64 (n : Int) (h0 : 0 ≤ n) (h1 : n < 64) : IntKind.u64.wrap (IntKind.u64.wrap (2 ^ n.toNat) - 1) = 2 ^ n.toNat - 1 := by
  obtain ⟨m, rfl⟩ := Int.eq_ofNat_of_zero_le h0
  have hm : m < 64 := by omega
  have h2 : (2 : Int) ^ m < 2 ^ 64 := by exact_mod_cast Nat.pow_lt_pow_right (by decide : 1 < 2) hm
  have h3 : (0 : Int) < 2 ^ m := Int.pow_pos (by decide)
  rw [Int.toNat_natCast, wraps_u64 _ (by omega) h2, wraps_u64 _ (by omega) (by omega)]
theorem mask_low (h n : Int) (h0 : 0 ≤ h) (h1 : h < 2 ^ 64) (n0 : 0 ≤ n) (n1 : n < 64) : bits .and .u64 h (IntKind.u64.wrap (IntKind.u64.wrap (2 ^ n.toNat) - 1)) = h % 2 ^ n.toNat := by
  rw [low_u64 n n0 n1]
  exact mask_u64 n.toNat (by omega) h h0 h1
theorem mod_pow_lt (h : Int) (n m : Nat) (hn : n ≤ m) : 0 ≤ h % 2 ^ n ∧ h % 2 ^ n < 2 ^ m := by
  have h3 : (0 : Int) < 2 ^ n := Int.pow_pos (by decide)
  have h4 : (2 : Int) ^ n ≤ 2 ^ m := by exact_mod_cast Nat.pow_le_pow_right (by decide) hn
  have := Int.emod_nonneg h (by omega : (2 : Int) ^ n ≠ 0)
  have := Int.emod_lt_of_pos h h3
  omega

end Go.Proofs.Ytemhlinodccokaa.Bt
