/- the reference's Pack, as it was printed, is the plain one. -/
import Derived.Test.YtemhlinodccokaaWireM2
set_option linter.unusedVariables false
set_option linter.unusedSimpArgs false
namespace Go.Proofs.Ytemhlinodccokaa.Wi
open Go.RowKit Go.Proofs.Ytemhlinodccokaa Go.Proofs.Ytemhlinodccokaa.PBase Go.Proofs.YtemhlinodccokaaW.PrintWords Go.Proofs.YtemhlinodccokaaW.PrintLast Go.Proofs.YtemhlinodccokaaW.PrintMore

theorem ql1 (x0 x1 : List Int) (i : Nat) (hi : i < x1.length) (hl : x1.length ≤ 1000000) : ∀ (n : Nat), n ≤ 8 → ∀ (K : Nat) (acc : List Int), acc.length + n ≤ 100000000 →
    coamingref06_Pack.l1 (K + n + 1) x0 x1 acc i ((n : Int) - 1) = coamingref06_Pack.l0 K x0 x1 (acc ++ be (rd x1 i) n) (i + 1) := by
  intro n
  induction n with
  | zero =>
    intro _ K acc _
    rw [coamingref06_Pack.l1, if_neg (by omega), be, List.append_nil, w64 _ (by omega) (by omega)]
  | succ n ih =>
    intro hn K acc ha
    rw [coamingref06_Pack.l1, if_pos (by omega), if_pos (by omega), if_pos (by omega)]
    have e : wrap64 (8 * (((n + 1 : Nat) : Int) - 1)) = 8 * (n : Int) := by rw [w64 _ (by omega) (by omega)]; omega
    have e2 : wrap64 (((n + 1 : Nat) : Int) - 1 - 1) = (n : Int) - 1 := by rw [w64 _ (by omega) (by omega)]; omega
    rw [e, e2, Bt.wraps_u64 _ (by omega) (by omega), if_pos (by omega), if_pos (by omega), shr_be _ _ (by omega)]
    rw [show K + (n + 1) = K + n + 1 by omega, ih (by omega) K _ (by simp; omega), be, List.append_assoc]
    rfl
theorem ql0 (x0 x1 : List Int) (m : Nat) (hm : m = min x0.length x1.length) (h0 : x0.length ≤ 1000000) (h1 : x1.length ≤ 1000000) : ∀ (d i : Nat), i + d = m → ∀ (F : Nat) (acc : List Int), 11 * d + 2 ≤ F → acc.length + 8 * d ≤ 10000000 →
    coamingref06_Pack.l0 F x0 x1 acc i = some (acc ++ packs (x0.drop i) (x1.drop i)) := by
  intro d
  induction d with
  | zero =>
    intro i e F acc hF _
    obtain ⟨F, rfl⟩ : ∃ G, F = G + 2 := ⟨F - 2, by omega⟩
    have : packs (x0.drop i) (x1.drop i) = [] := by
      by_cases c : x0.length ≤ i
      · rw [List.drop_eq_nil_of_le c]; rfl
      · rw [show x1.drop i = [] from List.drop_eq_nil_of_le (by omega)]
        cases x0.drop i <;> rfl
    rw [this, List.append_nil, coamingref06_Pack.l0]
    by_cases c : (i : Int) < (x0.length : Int)
    · rw [if_pos c, coamingref06_Pack.j1, if_neg (by simp; omega)]
    · rw [if_neg c, coamingref06_Pack.j1, if_neg (by simp)]
  | succ d ih =>
    intro i e F acc hF ha
    obtain ⟨F, rfl⟩ : ∃ G, F = G + 2 := ⟨F - 2, by omega⟩
    have hw := wd_range (rd x0 i)
    rw [coamingref06_Pack.l0, if_pos (by omega), coamingref06_Pack.j1, if_pos (by simp; omega), if_pos (by omega), if_pos (by omega), Width_f, Option.bind_some, w64 _ (by omega) (by omega)]
    have hF' : F = (F - wd (rd x0 i) - 1) + wd (rd x0 i) + 1 := by omega
    have hbl : ∀ v n, (be v n).length = n := by intro v n; induction n with | zero => rfl | succ n ihn => simp [be, ihn]
    rw [hF', ql1 x0 x1 i (by omega) h1 _ hw.2 _ _ (by omega)]
    have := ih (i + 1) (by omega) (F - wd (rd x0 i) - 1) (acc ++ be (rd x1 i) (wd (rd x0 i))) (by omega) (by rw [List.length_append, hbl]; omega)
    rw [show ((i : Int) + 1) = ((i + 1 : Nat) : Int) by omega, this, rd_drop x0 i (by omega), rd_drop x1 i (by omega), packs, List.append_assoc]
theorem rpack_is (x0 x1 : List Int) (h0 : x0.length ≤ 100000) (h1 : x1.length ≤ 100000) (K : Nat) (hK : 11 * x0.length + 2 ≤ K) : coamingref06_Pack.f K x0 x1 = some (packs x0 x1) := by
  unfold coamingref06_Pack.f
  have := ql0 x0 x1 _ rfl (by omega) (by omega) (min x0.length x1.length) 0 (by omega) K [] (by omega) (by simp; omega)
  simpa using this

theorem sn0 (l : List Int) (hl : l.length ≤ 1000000) : ∀ (d i : Nat), i + d = l.length → ∀ F, d + 1 ≤ F → coamingref00_SameNumbers.l0 F l l i = some true := by
  intro d
  induction d with
  | zero =>
    intro i e F hF
    obtain ⟨F, rfl⟩ : ∃ G, F = G + 1 := ⟨F - 1, by omega⟩
    rw [coamingref00_SameNumbers.l0, if_neg (by omega)]
  | succ d ih =>
    intro i e F hF
    obtain ⟨F, rfl⟩ : ∃ G, F = G + 1 := ⟨F - 1, by omega⟩
    rw [coamingref00_SameNumbers.l0, if_pos (by omega), if_pos (by omega), if_pos (by omega), if_pos rfl, w64 _ (by omega) (by omega)]
    exact ih (i + 1) (by omega) F (by omega)
theorem same_numbers (l : List Int) (hl : l.length ≤ 1000000) (K : Nat) (hK : l.length + 1 ≤ K) : coamingref00_SameNumbers.f K l l = some true := by
  unfold coamingref00_SameNumbers.f
  rw [if_pos rfl]
  exact sn0 l hl l.length 0 (by omega) K (by omega)
end Go.Proofs.Ytemhlinodccokaa.Wi
