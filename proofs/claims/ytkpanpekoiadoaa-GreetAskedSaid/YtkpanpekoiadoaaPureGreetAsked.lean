/- coaminglaw07.GreetAsked: for every input; no conditions. -/
import Derived.Test.YtkpanpekoiadoaaPGreetAskedx1
import Derived.Test.YtkpanpekoiadoaaGreetA
set_option linter.unusedVariables false
set_option linter.unusedSimpArgs false
namespace Go.Proofs.Ytkpanpekoiadoaa.Pure
open Go.RowKit Go.Proofs.Ytkpanpekoiadoaa Go.Proofs.Ytkpanpekoiadoaa.PGreetAsked Go.Proofs.Ytkpanpekoiadoaa.PBase Go.Proofs.YtkpanpekoiadoaaW.PrintWords Go.Proofs.YtkpanpekoiadoaaW.PrintLast Go.Proofs.YtkpanpekoiadoaaW.PrintMore Go.Proofs.Ytkpanpekoiadoaa.Wi Go.Proofs.Ytkpanpekoiadoaa.Gr

theorem ga0 (l : List Int) (hl : l.length ≤ 100000) : ∀ (d i : Nat), i + d = l.length → ∀ F, d + 1 ≤ F → coaminglaw07_GreetAsked.l0 F l l (i : Int) = some true := by
  intro d
  induction d with
  | zero =>
    intro i e F hF
    obtain ⟨F, rfl⟩ : ∃ G, F = G + 1 := ⟨F - 1, by omega⟩
    rw [coaminglaw07_GreetAsked.l0, if_neg (by omega)]
    rfl
  | succ d ih =>
    intro i e F hF
    obtain ⟨F, rfl⟩ : ∃ G, F = G + 1 := ⟨F - 1, by omega⟩
    rw [coaminglaw07_GreetAsked.l0, if_pos (by omega), if_pos (by omega), if_pos (by omega), if_pos rfl, w64 _ (by omega) (by omega)]
    exact ih (i + 1) (by omega) F (by omega)
theorem GreetAsked : coaminglaw07_GreetAsked.Pure := by
  intro l0 _ _ hw
  have hb := bytes_of_wf hw
  obtain ⟨K, hK⟩ : ∃ K, 900000 ≤ K := ⟨900000, Nat.le_refl _⟩
  refine ⟨K + 1, ?_⟩
  unfold coaminglaw07_GreetAsked.f
  by_cases h : (l0.length : Int) > 3000
  · rw [if_pos h]
  · have f1 := ak_code l0
    have f2 := ak_len l0
    have w1 : wrap64 (ak l0).2.2 = (ak l0).2.2 := w64 _ (by omega) (by omega)
    rw [if_neg h, asked_is l0 (by clear w1; omega) hb (K + 1) (by clear w1; omega), Option.bind_some, rasked_is l0 (by clear w1; omega) hb (K + 1) (by clear w1; omega), Option.bind_some, if_pos rfl, w1, if_pos rfl, bne_self_eq_false, coaminglaw07_GreetAsked.j0, if_neg (by decide)]
    clear w1
    exact ga0 _ (by omega) _ 0 (Nat.zero_add _) K (by omega)

end Go.Proofs.Ytkpanpekoiadoaa.Pure
