/- coaminglaw06.WireJoin: for every input; no conditions. -/
import Derived.Test.YtljghbgoaaofbaaPWireJoinx1
import Derived.Test.YtljghbgoaaofbaaWireM
namespace Go.Proofs.Ytljghbgoaaofbaa.Pure
open Go.RowKit Go.Proofs.Ytljghbgoaaofbaa Go.Proofs.Ytljghbgoaaofbaa.PWireJoin Go.Proofs.Ytljghbgoaaofbaa.PBase Go.Proofs.YtljghbgoaaofbaaW.PrintWords Go.Proofs.YtljghbgoaaofbaaW.PrintLast Go.Proofs.YtljghbgoaaofbaaW.PrintMore Go.Proofs.Ytljghbgoaaofbaa.Wi

theorem WireJoin : coaminglaw06_WireJoin.Pure := by
  intro l0 l1 a _ _ _ _ _ _ ha
  obtain ⟨K, hK⟩ : ∃ K, 900000 ≤ K := ⟨900000, Nat.le_refl _⟩
  refine ⟨K + 1, ?_⟩
  unfold coaminglaw06_WireJoin.f
  have yes : ∀ k, coaminglaw06_WireJoin.j0 (k + 1) l0 l1 a true = some true := fun k => by
    rw [coaminglaw06_WireJoin.j0, if_pos rfl]; rfl
  by_cases h : (l0.length : Int) > 300
  · rw [if_pos h]; exact yes K
  · rw [if_neg h]
    by_cases h' : (l1.length : Int) < (l0.length : Int)
    · rw [if_pos h']; exact yes K
    · rw [if_neg h']
      by_cases h2 : (l1.length : Int) > 300
      · rw [if_pos h2]; exact yes K
      · rw [if_neg h2, show known_.f = some true from rfl, Option.bind_some]
        show coaminglaw06_WireJoin.j0 (K + 1) l0 l1 a false = some true
        have e : wrap64 ((l0.length : Int) + 1) = (l0.length : Int) + 1 := w64 _ (by omega) (by omega)
        have hm0 : 0 ≤ mx a 0 % ((l0.length : Int) + 1) := Int.emod_nonneg _ (by omega)
        have hm1 : mx a 0 % ((l0.length : Int) + 1) < (l0.length : Int) + 1 := Int.emod_lt_of_pos _ (by omega)
        rw [coaminglaw06_WireJoin.j0, if_neg (by decide), e]
        clear e
        generalize mx a 0 % ((l0.length : Int) + 1) = m at *
        obtain ⟨n, rfl⟩ := Int.eq_ofNat_of_zero_le hm0
        have z1 := packs_len (l0.take n) (l1.take n)
        have z2 := packs_len (l0.drop n) (l1.drop n)
        rw [List.length_take] at z1
        rw [List.length_drop] at z2
        rw [if_neg (by omega), if_pos hm0, if_pos (by omega), if_pos (by omega), Int.toNat_natCast, pack_is _ _ (by rw [List.length_take]; omega) (by rw [List.length_take]; omega) K (by rw [List.length_take]; omega), Option.bind_some, pack_is _ _ (by rw [List.length_drop]; omega) (by rw [List.length_drop]; omega) K (by rw [List.length_drop]; omega), Option.bind_some, if_pos (by omega), pack_is l0 l1 (by omega) (by omega) K (by omega), Option.bind_some, packs_join, same_bytes, Option.bind_some]

end Go.Proofs.Ytljghbgoaaofbaa.Pure
