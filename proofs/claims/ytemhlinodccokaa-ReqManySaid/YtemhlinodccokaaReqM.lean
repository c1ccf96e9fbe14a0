/- A request's numbers: plain. -/
import Derived.Test.YtemhlinodccokaaWireT
set_option linter.unusedVariables false
set_option linter.unusedSimpArgs false
namespace Go.Proofs.Ytemhlinodccokaa
open Go.RowKit Go.Proofs.YtemhlinodccokaaW.PrintWords
namespace Wi
def rq0 (b : List Int) : Int := num (b.take 4)
def rq1 (b : List Int) : Int := num ((b.drop 4).take 2)
def rq2 (b : List Int) : Int := num ((b.drop 6).take 2)
def rq3 (b : List Int) : Int := num ((b.drop 8).take 8)
def rq4 (b : List Int) : Int := num ((b.drop 16).take 8)
def rq5 (b : List Int) : Int := num ((b.drop 24).take 4)
theorem takes6 (b : List Int) : takes b [4, 2, 2, 8, 8, 4] [] = if b.length < 28 then ([], [], false) else ([rq0 b, rq1 b, rq2 b, rq3 b, rq4 b, rq5 b], b.drop 28, true) := by
  simp only [takes, show wd 4 = 4 from rfl, show wd 8 = 8 from rfl, show wd 2 = 2 from rfl, List.length_drop, List.drop_drop]
  by_cases h : b.length < 28
  · rw [if_pos h]
    by_cases h0 : b.length < 4
    · rw [if_pos h0]
    · rw [if_neg h0]
      by_cases h1 : b.length - 4 < 2
      · rw [if_pos h1]
      · rw [if_neg h1]
        by_cases h2 : b.length - (4 + 2) < 2
        · rw [if_pos h2]
        · rw [if_neg h2]
          by_cases h3 : b.length - (4 + 2 + 2) < 8
          · rw [if_pos h3]
          · rw [if_neg h3]
            by_cases h4 : b.length - (4 + 2 + 2 + 8) < 8
            · rw [if_pos h4]
            · rw [if_neg h4]
              rw [if_pos (by omega)]
  · rw [if_neg h, if_neg (by omega), if_neg (by omega), if_neg (by omega), if_neg (by omega), if_neg (by omega), if_neg (by omega)]
    rfl
theorem num_bnd (b : List Int) (hb : Bytes b) (n : Nat) : 0 ≤ num (b.take n) ∧ num (b.take n) < 256 ^ n := by
  have := num_range (b.take n) (hb.take n)
  refine ⟨this.1, Int.lt_of_lt_of_le this.2 ?_⟩
  have hle : (b.take n).length ≤ n := by rw [List.length_take]; omega
  have h2 : (256 : Nat) ^ (b.take n).length ≤ 256 ^ n := Nat.pow_le_pow_right (by decide) hle
  have h3 : ((256 ^ (b.take n).length : Nat) : Int) ≤ ((256 ^ n : Nat) : Int) := Int.ofNat_le.2 h2
  rwa [Int.natCast_pow, Int.natCast_pow] at h3
theorem rq_bnd (b : List Int) (hb : Bytes b) : (0 ≤ rq0 b ∧ rq0 b < 4294967296) ∧ (0 ≤ rq1 b ∧ rq1 b < 65536) ∧ (0 ≤ rq2 b ∧ rq2 b < 65536) ∧ (0 ≤ rq3 b ∧ rq3 b < 18446744073709551616) ∧ (0 ≤ rq4 b ∧ rq4 b < 18446744073709551616) ∧ (0 ≤ rq5 b ∧ rq5 b < 4294967296) :=
  ⟨num_bnd b hb 4, num_bnd _ (hb.drop 4) 2, num_bnd _ (hb.drop 6) 2, num_bnd _ (hb.drop 8) 8, num_bnd _ (hb.drop 16) 8, num_bnd _ (hb.drop 24) 4⟩
theorem rq_take (b : List Int) : rq0 (b.take 28) = rq0 b ∧ rq1 (b.take 28) = rq1 b ∧ rq2 (b.take 28) = rq2 b ∧ rq3 (b.take 28) = rq3 b ∧ rq4 (b.take 28) = rq4 b ∧ rq5 (b.take 28) = rq5 b := by
  refine ⟨?_, ?_, ?_, ?_, ?_, ?_⟩
  · unfold rq0; rw [List.take_take]; rfl
  · unfold rq1; rw [List.drop_take, List.take_take]; rfl
  · unfold rq2; rw [List.drop_take, List.take_take]; rfl
  · unfold rq3; rw [List.drop_take, List.take_take]; rfl
  · unfold rq4; rw [List.drop_take, List.take_take]; rfl
  · unfold rq5; rw [List.drop_take, List.take_take]; rfl
/-- a request at the front of bytes: its numbers, its data, how many bytes, what error -/
def nextOf (b : List Int) : Int × Int × Int × Int × Int × List Int × Int × Int :=
  if b.length < 28 then (0, 0, 0, 0, 0, [], 0, 80)
  else if rq0 b ≠ 627086611 then (0, 0, 0, 0, 0, [], 0, 81)
  else if rq2 b = 1 then
    if rq5 b > 65536 then (0, 0, 0, 0, 0, [], 0, 82)
    else if 28 + rq5 b > b.length then (0, 0, 0, 0, 0, [], 0, 80)
    else (rq1 b, rq2 b, rq3 b, rq4 b, rq5 b, (b.drop 28).take (rq5 b).toNat, 28 + rq5 b, 0)
  else (rq1 b, rq2 b, rq3 b, rq4 b, rq5 b, [], 28, 0)
end Wi
/-- the contracts' functions, in the form that the printer's callers ask -/
def req_Next.f (l0 : List Int) : Option (Int × Int × Int × Int × Int × List Int × Int × Int) := if l0.length ≤ 1099511627776 ∧ ∀ x ∈ l0, 0 ≤ x ∧ x ≤ 255 then some (Wi.nextOf l0) else none
end Go.Proofs.Ytemhlinodccokaa
