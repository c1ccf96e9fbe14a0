/- coaminglaw06.WirePacks: for every input; no conditions. -/
import Derived.Test.YtljghbgoaaofbaaPWirePacksx1
import Derived.Test.YtljghbgoaaofbaaWireM
namespace Go.Proofs.Ytljghbgoaaofbaa.Pure
open Go.RowKit Go.Proofs.Ytljghbgoaaofbaa Go.Proofs.Ytljghbgoaaofbaa.PWirePacks Go.Proofs.Ytljghbgoaaofbaa.PBase Go.Proofs.YtljghbgoaaofbaaW.PrintWords Go.Proofs.YtljghbgoaaofbaaW.PrintLast Go.Proofs.YtljghbgoaaofbaaW.PrintMore Go.Proofs.Ytljghbgoaaofbaa.Wi

theorem WirePacks : coaminglaw06_WirePacks.Pure := by
  intro l0 l1 _ _ _ _ _ _
  obtain ⟨K, hK⟩ : ∃ K, 900000 ≤ K := ⟨900000, Nat.le_refl _⟩
  refine ⟨K + 1, ?_⟩
  unfold coaminglaw06_WirePacks.f
  have yes : ∀ k, coaminglaw06_WirePacks.j0 (k + 1) l0 l1 true = some true := fun k => by
    rw [coaminglaw06_WirePacks.j0, if_pos rfl]
  by_cases h : (l0.length : Int) > 300
  · rw [if_pos h]; exact yes K
  · rw [if_neg h]
    by_cases h' : (l1.length : Int) > 300
    · rw [decide_eq_true h']; exact yes K
    · rw [decide_eq_false h', coaminglaw06_WirePacks.j0, if_neg (by decide), show known_.f = some true from rfl, Option.bind_some, if_pos rfl, pack_is l0 l1 (by omega) (by omega) K (by omega), Option.bind_some, rpack_is l0 l1 (by omega) (by omega) K (by omega), Option.bind_some, same_bytes, Option.bind_some]

end Go.Proofs.Ytljghbgoaaofbaa.Pure
