/- the reference's Take, as it was printed, is the plain one. -/
import Derived.Test.YtemhlinodccokaaWireM1
import Derived.Test.YtemhlinodccokaaPBasex
set_option linter.unusedVariables false
set_option linter.unusedSimpArgs false
namespace Go.Proofs.Ytemhlinodccokaa.Wi
open Go.RowKit Go.Proofs.Ytemhlinodccokaa Go.Proofs.Ytemhlinodccokaa.PBase Go.Proofs.YtemhlinodccokaaW.PrintWords Go.Proofs.YtemhlinodccokaaW.PrintLast Go.Proofs.YtemhlinodccokaaW.PrintMore

theorem Width_f (n : Int) : coamingref06_Width.f n = some (wd n : Int) := by
  unfold coamingref06_Width.f wd
  split
  · rename_i h; subst h; rfl
  · split
    · rename_i h; subst h; rfl
    · split
      · rename_i h; subst h; rfl
      · rfl
theorem same_bytes (l : List Int) : coamingref00_SameBytes.f l l = some true := by unfold coamingref00_SameBytes.f; rw [beq_self_eq_true]
theorem lent_bytes (l : List Int) (h : l.length ≤ 1000000) : coamingref00_LentBytes.f l = some l := by unfold coamingref00_LentBytes.f; rw [if_pos (by simp; omega)]; rfl
theorem tl1 (x0 x1 acc : List Int) (hb : Bytes x0) (a i w : Nat) (hw : w ≤ 8) (ha : a + w ≤ x0.length) (h0 : x0.length ≤ 1000000) (h1 : x1.length ≤ 1000000) (hi : i < x1.length) (hacc : acc.length ≤ 1000000) : ∀ (d j : Nat), j + d = w → ∀ (K : Nat),
    coamingref06_Take.l1 (K + d + 1) x0 x1 acc a i w (num ((x0.drop a).take j)) j = coamingref06_Take.l0 K x0 x1 (acc ++ [num ((x0.drop a).take w)]) (a + w : Nat) (i + 1 : Nat) := by
  intro d
  induction d with
  | zero =>
    intro j e K
    obtain rfl : j = w := by omega
    rw [coamingref06_Take.l1, if_neg (by omega), if_pos (by omega), w64 _ (by omega) (by omega), w64 _ (by omega) (by omega)]
    rfl
  | succ d ih =>
    intro j e K
    have hn := num_range ((x0.drop a).take j) ((hb.drop a).take j)
    have hlj : ((x0.drop a).take j).length = j := by rw [List.length_take, List.length_drop]; omega
    rw [hlj] at hn
    have hp := Int.lt_of_lt_of_le hn.2 (pow256 j (by omega))
    have hn0 := hn.1
    clear hn
    have hx := hb _ (rd_mem x0 (a + j) (by omega))
    generalize hm : num ((x0.drop a).take j) = m at *
    have g1 : 0 ≤ m * 256 := by omega
    have g2 : m * 256 < 2 ^ 64 := by omega
    have g3 : rd x0 ((a + j : Nat) : Int) < 2 ^ 64 := by omega
    have e1 : wrap64 ((a : Int) + (j : Int)) = ((a + j : Nat) : Int) := by rw [w64 _ (by omega) (by omega)]; omega
    have e2 : wrap64 ((j : Int) + 1) = ((j + 1 : Nat) : Int) := by clear e1; rw [w64 _ (by omega) (by omega)]; omega
    rw [coamingref06_Take.l1, if_pos (by clear e1 e2; omega), e1, e2, if_pos (by clear e1 e2; omega), if_pos (by clear e1 e2; omega)]
    clear e1 e2
    rw [Bt.wraps_u64 (m * 256) g1 g2, Bt.wraps_u64 _ hx.1 g3, Bt.or_256 m _ hn0 hp hx.1 hx.2]
    have hs : num ((x0.drop a).take (j + 1)) = m * 256 + rd x0 ((a + j : Nat) : Int) := by
      rw [take_snoc _ j (by rw [List.length_drop]; omega), num_snoc, hm]
      congr 1
      simp only [rd, List.getD_eq_getElem?_getD, List.getElem?_drop, Int.toNat_natCast]
    rw [← hs]
    exact ih (j + 1) (by omega) K
theorem tl0 (x0 x1 : List Int) (hb : Bytes x0) (h0 : x0.length ≤ 1000000) (h1 : x1.length ≤ 1000000) : ∀ (d i : Nat), i + d = x1.length → ∀ (F a : Nat) (acc : List Int), 10 * d + 1 ≤ F → a ≤ x0.length → acc.length = i →
    coamingref06_Take.l0 F x0 x1 acc a i = some (takes (x0.drop a) (x1.drop i) acc) := by
  intro d
  induction d with
  | zero =>
    intro i e F a acc hF ha hacc
    obtain ⟨F, rfl⟩ : ∃ G, F = G + 1 := ⟨F - 1, by omega⟩
    rw [coamingref06_Take.l0, if_neg (by omega), if_pos (by omega), if_pos (by omega), if_pos (by simp; omega), show x1.drop i = [] from List.drop_eq_nil_of_le (by omega), takes]
    rfl
  | succ d ih =>
    intro i e F a acc hF ha hacc
    obtain ⟨F, rfl⟩ : ∃ G, F = G + 1 := ⟨F - 1, by omega⟩
    have hw := wd_range (rd x1 i)
    rw [coamingref06_Take.l0, if_pos (by omega), if_pos (by omega), Width_f, Option.bind_some, w64 _ (by omega) (by omega), rd_drop x1 i (by omega), takes]
    by_cases c : (wd (rd x1 i) : Int) > (x0.length : Int) - (a : Int)
    · rw [if_pos c, if_pos (by rw [List.length_drop]; omega)]
    · rw [if_neg c, if_neg (by rw [List.length_drop]; omega)]
      have hF' : F = (F - wd (rd x1 i) - 1) + wd (rd x1 i) + 1 := by omega
      have := tl1 x0 x1 acc hb a i (wd (rd x1 i)) hw.2 (by omega) h0 h1 (by omega) (by omega) (wd (rd x1 i)) 0 (by omega) (F - wd (rd x1 i) - 1)
      rw [← hF'] at this
      refine this.trans ?_
      rw [ih (i + 1) (by omega) _ _ _ (by omega) (by omega) (by simp; omega), List.drop_drop]
theorem rtake_is (x0 x1 : List Int) (hb : Bytes x0) (h0 : x0.length ≤ 1000000) (h1 : x1.length ≤ 1000000) (K : Nat) (hK : 10 * x1.length + 1 ≤ K) : coamingref06_Take.f K x0 x1 = some (takes x0 x1 []) := by
  unfold coamingref06_Take.f
  exact tl0 x0 x1 hb h0 h1 x1.length 0 (by omega) K 0 [] hK (by omega) rfl
end Go.Proofs.Ytemhlinodccokaa.Wi
