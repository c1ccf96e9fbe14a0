/- coaminglaw06.WireTakes: for every input; no conditions. -/
import Derived.Test.YtljghbgoaaofbaaPWireTakesx1
import Derived.Test.YtljghbgoaaofbaaWireM
namespace Go.Proofs.Ytljghbgoaaofbaa.Pure
open Go.RowKit Go.Proofs.Ytljghbgoaaofbaa Go.Proofs.Ytljghbgoaaofbaa.PWireTakes Go.Proofs.Ytljghbgoaaofbaa.PBase Go.Proofs.YtljghbgoaaofbaaW.PrintWords Go.Proofs.YtljghbgoaaofbaaW.PrintLast Go.Proofs.YtljghbgoaaofbaaW.PrintMore Go.Proofs.Ytljghbgoaaofbaa.Wi

theorem WireTakes : coaminglaw06_WireTakes.Pure := by
  intro l0 l1 _ _ hw _ _ _
  have hb := bytes_of_wf hw
  obtain ⟨K, hK⟩ : ∃ K, 900000 ≤ K := ⟨900000, Nat.le_refl _⟩
  refine ⟨K + 1, ?_⟩
  unfold coaminglaw06_WireTakes.f
  have yes : ∀ k, coaminglaw06_WireTakes.j0 (k + 1) l0 l1 true = some true := fun k => by
    rw [coaminglaw06_WireTakes.j0, if_pos rfl]
  by_cases h : (l0.length : Int) > 2400
  · rw [if_pos h]; exact yes K
  · rw [if_neg h]
    by_cases h' : (l1.length : Int) > 300
    · rw [decide_eq_true h']; exact yes K
    · have hl := takes_len l1 l0 []
      rw [List.length_nil, Nat.zero_add] at hl
      rw [decide_eq_false h', coaminglaw06_WireTakes.j0, if_neg (by decide), lent_bytes l0 (by omega), Option.bind_some, take_is l0 l1 (by omega) (by omega) hb, Option.bind_some, rtake_is l0 l1 hb (by omega) (by omega) K (by omega), Option.bind_some, show known_.f = some true from rfl, Option.bind_some, if_pos rfl, beq_self_eq_true, if_pos rfl, same_numbers _ (by omega) K (by omega), Option.bind_some, if_pos rfl, same_bytes, Option.bind_some, if_pos rfl, same_bytes, Option.bind_some]

end Go.Proofs.Ytljghbgoaaofbaa.Pure
