/- coaminglaw06.WireOwn: for every input; no conditions. -/
import Derived.Test.YtljghbgoaaofbaaPWireOwnx1
import Derived.Test.YtljghbgoaaofbaaWireM
set_option linter.unusedVariables false
set_option linter.unusedSimpArgs false
namespace Go.Proofs.Ytljghbgoaaofbaa.Pure
open Go.RowKit Go.Proofs.Ytljghbgoaaofbaa Go.Proofs.Ytljghbgoaaofbaa.PWireOwn Go.Proofs.Ytljghbgoaaofbaa.PBase Go.Proofs.YtljghbgoaaofbaaW.PrintWords Go.Proofs.YtljghbgoaaofbaaW.PrintLast Go.Proofs.YtljghbgoaaofbaaW.PrintMore Go.Proofs.Ytljghbgoaaofbaa.Wi

theorem takes_rest : ∀ (ws b acc : List Int), (takes b ws acc).2.1.length ≤ b.length
  | [], b, acc => by simp [takes]
  | w :: ws, b, acc => by
    rw [takes]
    split
    · simp
    · have := takes_rest ws (b.drop (wd w)) (acc ++ [num (b.take (wd w))])
      rw [List.length_drop] at this
      omega
theorem loop_xor (x0 x5 : List Int) (x7 : Bool) (x8 : List Int) (h5 : x5.length ≤ 10000) (h8 : x7 = true → x8 = x5) : ∀ (d i : Nat) (x6 : List Int), i + d = x6.length → x6.length ≤ 10000 → ∀ F, d + 20000 ≤ F →
    coaminglaw06_WireOwn.l1 F x0 x5 x6 x7 x8 x0 i = some true := by
  intro d
  induction d with
  | zero =>
    intro i x6 e h6 F hF
    obtain ⟨F, rfl⟩ : ∃ G, F = G + 1 := ⟨F - 1, by omega⟩
    rw [coaminglaw06_WireOwn.l1, if_neg (by omega), same_bytes, Option.bind_some, if_pos rfl]
    cases x7 with
    | false => rw [if_neg (by decide)]
    | true => rw [if_pos rfl, h8 rfl, same_numbers x5 (by omega) F (by omega), Option.bind_some]
  | succ d ih =>
    intro i x6 e h6 F hF
    obtain ⟨F, rfl⟩ : ∃ G, F = G + 1 := ⟨F - 1, by omega⟩
    rw [coaminglaw06_WireOwn.l1, if_pos (by omega), if_pos (by omega), w64 _ (by omega) (by omega)]
    exact ih (i + 1) _ (by rw [List.length_set]; omega) (by rw [List.length_set]; omega) F (by omega)
theorem loop_take (x0 x1 x5 x6 : List Int) (x7 : Bool) (h1 : x1.length ≤ 300) : ∀ (d i : Nat), i + d = x1.length → ∀ (F : Nat) (acc left : List Int), d + 3 ≤ F → acc.length ≤ i → left.length ≤ 2400 → Bytes left →
    ∃ F' one, F ≤ F' + d + 2 ∧ coaminglaw06_WireOwn.l0 F x0 x1 x5 x6 x7 acc left true i = coaminglaw06_WireOwn.j2 F' x0 x5 x6 x7 one (takes left (x1.drop i) acc).2.2 ∧ ((takes left (x1.drop i) acc).2.2 = true → one = (takes left (x1.drop i) acc).1) := by
  intro d
  induction d with
  | zero =>
    intro i e F acc left hF ha hl hb
    obtain ⟨F, rfl⟩ : ∃ G, F = G + 1 := ⟨F - 1, by omega⟩
    rw [show x1.drop i = [] from List.drop_eq_nil_of_le (by omega), takes]
    exact ⟨F, acc, by omega, by rw [coaminglaw06_WireOwn.l0, if_neg (by omega)], fun _ => rfl⟩
  | succ d ih =>
    intro i e F acc left hF ha hl hb
    obtain ⟨F, rfl⟩ : ∃ G, F = G + 1 := ⟨F - 1, by omega⟩
    rw [rd_drop x1 i (by omega), takes]
    have e1 : wrap64 ((i : Int) + 1) = ((i + 1 : Nat) : Int) := by rw [w64 _ (by omega) (by omega)]; omega
    rw [coaminglaw06_WireOwn.l0, if_pos (by clear e1; omega), if_pos rfl, if_pos (by clear e1; omega), e1, take_is left [rd x1 i] (by clear e1; omega) (by simp) hb, Option.bind_some, takes]
    clear e1
    by_cases c : left.length < wd (rd x1 i)
    · rw [if_pos c, if_pos c, if_pos (by simp; omega)]
      obtain ⟨F, rfl⟩ : ∃ G, F = G + 1 := ⟨F - 1, by omega⟩
      refine ⟨F, acc ++ [], by omega, ?_, fun h => by cases h⟩
      rw [coaminglaw06_WireOwn.l0]
      split
      · rw [if_neg (by decide)]
      · rfl
    · rw [if_neg c, if_neg c, takes, List.nil_append, if_pos (by simp; omega)]
      obtain ⟨F', one, q1, q2, q3⟩ := ih (i + 1) (by omega) F (acc ++ [num (left.take (wd (rd x1 i)))]) (left.drop (wd (rd x1 i))) (by omega) (by simp; omega) (by rw [List.length_drop]; omega) (hb.drop _)
      exact ⟨F', one, by omega, q2, q3⟩
theorem WireOwn : coaminglaw06_WireOwn.Pure := by
  intro l0 l1 _ _ hw _ _ _
  have hb := bytes_of_wf hw
  obtain ⟨K, hK⟩ : ∃ K, 900000 ≤ K := ⟨900000, Nat.le_refl _⟩
  refine ⟨K + 2, ?_⟩
  unfold coaminglaw06_WireOwn.f
  have yes : ∀ k, coaminglaw06_WireOwn.j0 (k + 1) l0 l1 true = some true := fun k => by
    rw [coaminglaw06_WireOwn.j0, if_pos rfl]; rfl
  by_cases h : (l0.length : Int) > 2400
  · rw [if_pos h]; exact yes _
  · rw [if_neg h]
    by_cases h' : (l1.length : Int) > 300
    · rw [if_pos h']; exact yes _
    · rw [if_neg h', show known_.f = some true from rfl, Option.bind_some]
      show coaminglaw06_WireOwn.j0 (K + 2) l0 l1 false = some true
      have hl := takes_len l1 l0 []
      have hr := takes_rest l1 l0 []
      rw [List.length_nil, Nat.zero_add] at hl
      rw [coaminglaw06_WireOwn.j0, if_neg (by decide), take_is l0 l1 (by omega) (by omega) hb, Option.bind_some, lent_bytes l0 (by omega), Option.bind_some]
      obtain ⟨F', one, q1, q2, q3⟩ := loop_take l0 l1 (takes l0 l1 []).1 (takes l0 l1 []).2.1 (takes l0 l1 []).2.2 (by omega) l1.length 0 (by omega) (K + 1) [] l0 (by omega) (by simp) (by omega) hb
      refine Eq.trans q2 ?_
      rw [List.drop_zero] at q3 ⊢
      obtain ⟨F', rfl⟩ : ∃ G, F' = G + 1 := ⟨F' - 1, by omega⟩
      rw [coaminglaw06_WireOwn.j2, if_neg (by simp), lent_bytes l0 (by omega), Option.bind_some]
      exact loop_xor l0 _ _ one (by omega) q3 _ 0 _ (by rw [Nat.zero_add]) (by omega) F' (by omega)

end Go.Proofs.Ytljghbgoaaofbaa.Pure
