/- coaminglaw07.GreetReads: for every input; no conditions. -/
import Derived.Test.YtkpanpekoiadoaaPGreetReadsx1
import Derived.Test.YtkpanpekoiadoaaGreetM
set_option linter.unusedVariables false
set_option linter.unusedSimpArgs false
namespace Go.Proofs.Ytkpanpekoiadoaa.Pure
open Go.RowKit Go.Proofs.Ytkpanpekoiadoaa Go.Proofs.Ytkpanpekoiadoaa.PGreetReads Go.Proofs.Ytkpanpekoiadoaa.PBase Go.Proofs.YtkpanpekoiadoaaW.PrintWords Go.Proofs.YtkpanpekoiadoaaW.PrintLast Go.Proofs.YtkpanpekoiadoaaW.PrintMore Go.Proofs.Ytkpanpekoiadoaa.Wi Go.Proofs.Ytkpanpekoiadoaa.Gr

theorem fl_code (l : List Int) : 0 ≤ (fl l).2.2 ∧ (fl l).2.2 ≤ 100 := by unfold fl; split <;> (try split) <;> simp
theorem nx_code (l : List Int) : 0 ≤ (nx l).2.2.2 ∧ (nx l).2.2.2 ≤ 100 := by unfold nx; split <;> (try split) <;> (try split) <;> (try split) <;> simp
theorem GreetReads : coaminglaw07_GreetReads.Pure := by
  intro l0 _ _ hw
  have hb := bytes_of_wf hw
  obtain ⟨K, hK⟩ : ∃ K, 900000 ≤ K := ⟨900000, Nat.le_refl _⟩
  refine ⟨K + 1, ?_⟩
  unfold coaminglaw07_GreetReads.f
  by_cases h : (l0.length : Int) > 3000
  · rw [if_pos h]
  · have f1 := fl_code l0
    have f2 := nx_code l0
    have w1 : wrap64 (fl l0).2.2 = (fl l0).2.2 := w64 _ (by omega) (by omega)
    have w2 : wrap64 (nx l0).2.2.2 = (nx l0).2.2.2 := w64 _ (by clear w1; omega) (by clear w1; omega)
    rw [if_neg h, lent_bytes l0 (by clear w1 w2; omega), Option.bind_some, flags_is l0 (by clear w1 w2; omega) hb, Option.bind_some, rflags_is l0 (by clear w1 w2; omega) hb (K + 1) (by clear w1 w2; omega), Option.bind_some, next_is l0 (by clear w1 w2; omega) hb, Option.bind_some, rnext_is l0 (by clear w1 w2; omega) hb (K + 1) (by clear w1 w2; omega), Option.bind_some, beq_self_eq_true, if_pos rfl, if_pos rfl, w1, if_pos rfl, if_pos rfl, same_bytes, Option.bind_some, show known_.f = some true from rfl, Option.bind_some, if_pos rfl, if_pos rfl, if_pos rfl, w2, if_pos rfl, same_bytes, Option.bind_some]

end Go.Proofs.Ytkpanpekoiadoaa.Pure
