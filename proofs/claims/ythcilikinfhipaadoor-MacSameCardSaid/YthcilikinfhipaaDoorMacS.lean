/- mac.Same says whether two lists are the same. -/
import Derived.Test.YthcilikinfhipaaDoorMacM
import Derived.Test.YthcilikinfhipaaDoorPBasex3
set_option linter.unusedVariables false
set_option linter.unusedSimpArgs false
namespace Go.Proofs.YthcilikinfhipaaDoor
open Go.RowKit Go.Proofs.YthcilikinfhipaaDoorW.PrintWords
namespace Sh
open PBase
theorem wrap_toNat (x : BitVec 8) : IntKind.u8.wrap (x.toNat : Int) = (x.toNat : Int) := by
  rw [IntKind.wrap_u8]
  have := x.isLt
  omega
theorem ofInt_wrap (x : BitVec 8) : BitVec.ofInt 8 (IntKind.u8.wrap (x.toNat : Int)) = x := by
  rw [wrap_toNat]
  apply BitVec.eq_of_toNat_eq
  rw [BitVec.ofInt_natCast, BitVec.toNat_ofNat]
  exact Nat.mod_eq_of_lt x.isLt
theorem ofInt_inj (a b : Int) (ha : 0 ≤ a ∧ a ≤ 255) (hb : 0 ≤ b ∧ b ≤ 255) (h : BitVec.ofInt 8 a = BitVec.ofInt 8 b) : a = b := by
  obtain ⟨m, rfl⟩ := Int.eq_ofNat_of_zero_le ha.1
  obtain ⟨n, rfl⟩ := Int.eq_ofNat_of_zero_le hb.1
  have := congrArg BitVec.toNat h
  rw [BitVec.ofInt_natCast, BitVec.ofInt_natCast, BitVec.toNat_ofNat, BitVec.toNat_ofNat, Nat.mod_eq_of_lt (by omega), Nat.mod_eq_of_lt (by omega)] at this
  rw [this]
theorem or_xor_zero (x a b : Int) (hx : 0 ≤ x ∧ x ≤ 255) (ha : 0 ≤ a ∧ a ≤ 255) (hb : 0 ≤ b ∧ b ≤ 255) : bits .or .u8 x (bits .xor .u8 a b) = 0 ↔ x = 0 ∧ a = b := by
  have hxor : BitVec.ofInt 8 (bits .xor .u8 a b) = BitVec.ofInt 8 a ^^^ BitVec.ofInt 8 b := ofInt_wrap (BitVec.ofInt 8 a ^^^ BitVec.ofInt 8 b)
  have hor : bits .or .u8 x (bits .xor .u8 a b) = ((BitVec.ofInt 8 x ||| (BitVec.ofInt 8 a ^^^ BitVec.ofInt 8 b)).toNat : Int) := by
    rw [← hxor]
    exact wrap_toNat (BitVec.ofInt 8 x ||| BitVec.ofInt 8 (bits .xor .u8 a b))
  rw [hor]
  constructor
  · intro h
    have h0 : BitVec.ofInt 8 x ||| (BitVec.ofInt 8 a ^^^ BitVec.ofInt 8 b) = 0#8 := by
      apply BitVec.eq_of_toNat_eq
      have : (BitVec.ofInt 8 x ||| (BitVec.ofInt 8 a ^^^ BitVec.ofInt 8 b)).toNat = 0 := by omega
      rw [this]; rfl
    rw [BitVec.or_eq_zero_iff, BitVec.xor_eq_zero_iff] at h0
    refine ⟨ofInt_inj x 0 hx (by omega) (h0.1.trans rfl), ofInt_inj a b ha hb h0.2⟩
  · rintro ⟨rfl, rfl⟩
    rw [BitVec.xor_self]
    rfl
theorem rd_nat' (l : List Int) (i : Nat) : rd l (i : Int) = l.getD i 0 := by simp [rd, List.getD_eq_getElem?_getD]
theorem same_loop (l0 l1 : List Int) (h : l0.length = l1.length) (hm : l0.length ≤ 4611686018427387904) (hb0 : Bytes l0) (hb1 : Bytes l1) : ∀ (d i k : Nat) (x : Int), i + d = l0.length → d < k → (0 ≤ x ∧ x ≤ 255) →
    mac_Same.l0 k l0 l1 x (l0.length : Int) i = some (decide (x = 0 ∧ l0.drop i = l1.drop i))
  | 0, i, k, x, hi, hk, hx => by
    obtain ⟨k, rfl⟩ : ∃ m, k = m + 1 := ⟨k - 1, by omega⟩
    rw [mac_Same.l0, if_neg (by omega), List.drop_of_length_le (by omega), List.drop_of_length_le (by omega)]
    simp [Bool.beq_eq_decide_eq]
  | d + 1, i, k, x, hi, hk, hx => by
    obtain ⟨k, rfl⟩ : ∃ m, k = m + 1 := ⟨k - 1, by omega⟩
    have h0 : i < l0.length := by omega
    have h1 : i < l1.length := by omega
    have e1 : wrap64 ((i : Int) + 1) = ((i + 1 : Nat) : Int) := by unfold wrap64; omega
    rw [mac_Same.l0, e1]
    clear e1
    rw [if_pos (by omega), if_pos (by omega), if_pos (by omega), if_pos (by omega), rd_nat', rd_nat']
    have g0 : l0.getD i 0 = l0[i] := by rw [List.getD_eq_getElem?_getD, List.getElem?_eq_getElem h0]; rfl
    have g1 : l1.getD i 0 = l1[i] := by rw [List.getD_eq_getElem?_getD, List.getElem?_eq_getElem h1]; rfl
    have b0 := hb0 _ (List.getElem_mem h0)
    have b1 := hb1 _ (List.getElem_mem h1)
    rw [same_loop l0 l1 h hm hb0 hb1 d (i + 1) k _ (by omega) (by omega) ⟨bits_lo_u8 _ _ _, bits_hi_u8 _ _ _⟩, g0, g1]
    rw [List.drop_eq_getElem_cons h0, List.drop_eq_getElem_cons h1]
    congr 1
    rw [decide_eq_decide, or_xor_zero x _ _ hx b0 b1, List.cons.injEq, and_assoc]
theorem same_is (l0 l1 : List Int) (hm : l0.length ≤ 4611686018427387904) (hb0 : Bytes l0) (hb1 : Bytes l1) (k : Nat) (hk : l0.length < k) : mac_Same.f k l0 l1 = some (decide (l0 = l1)) := by
  unfold mac_Same.f
  by_cases h : l0.length = l1.length
  · rw [if_pos (by omega)]
    have := same_loop l0 l1 h hm hb0 hb1 l0.length 0 k 0 (by omega) hk (by omega)
    rw [List.drop_zero, List.drop_zero] at this
    refine this.trans ?_
    simp
  · rw [if_neg (by omega)]
    have : l0 ≠ l1 := fun e => h (by rw [e])
    simp [this]
end Sh
/-- Same's contract -/
theorem same_.calls (A0 : Option Addr) (c0 : Nat) (l0 : List Int) (A1 : Option Addr) (c1 : Nat) (l1 : List Int) (w : World) (hr0 : Kd.C (Kd.int .u8) w A0 l0.length l0) (hc0 : l0.length ≤ c0) (hr1 : Kd.C (Kd.int .u8) w A1 l1.length l1) (hc1 : l1.length ≤ c1)
    (hm : l0.length ≤ 4611686018427387904) (hb0 : Sh.Bytes l0) (hb1 : Sh.Bytes l1) :
    Calls Tryd.prog 12 #[.slice A0 l0.length c0, .slice A1 l1.length c1] w fun e w' => e = .returned (.bool (decide (l0 = l1))) ∧ ∃ m, w' = w.drewN m :=
  (PBase.mac_Same.calls (l0.length + 1) A0 c0 l0 A1 c1 l1 _ w hr0 hc0 hr1 hc1 (Sh.same_is l0 l1 hm hb0 hb1 _ (Nat.lt_succ_self _))).mono fun _ _ ⟨h1, h2⟩ => ⟨h1, h2.out⟩
end Go.Proofs.YthcilikinfhipaaDoor
