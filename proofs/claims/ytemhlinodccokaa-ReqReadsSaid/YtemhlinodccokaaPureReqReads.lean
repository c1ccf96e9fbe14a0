/- coaminglaw08.ReqReads: for every input; no conditions. -/
import Derived.Test.YtemhlinodccokaaPReqReadsx1
import Derived.Test.YtemhlinodccokaaReqX
set_option linter.unusedVariables false
set_option linter.unusedSimpArgs false
namespace Go.Proofs.Ytemhlinodccokaa.Pure
open Go.RowKit Go.Proofs.Ytemhlinodccokaa Go.Proofs.Ytemhlinodccokaa.PReqReads Go.Proofs.Ytemhlinodccokaa.PBase Go.Proofs.YtemhlinodccokaaW.PrintWords Go.Proofs.YtemhlinodccokaaW.PrintLast Go.Proofs.YtemhlinodccokaaW.PrintMore Go.Proofs.Ytemhlinodccokaa.Wi
theorem next_code (l : List Int) : 0 ≤ (nextOf l).2.2.2.2.2.2.2 ∧ (nextOf l).2.2.2.2.2.2.2 ≤ 100 := by
  unfold nextOf
  split
  · simp
  · split
    · simp
    · split
      · split
        · simp
        · split <;> simp
      · simp
theorem ReqReads : coaminglaw08_ReqReads.Pure := by
  intro l0 _ _ hw
  have hb := bytes_of_wf hw
  unfold coaminglaw08_ReqReads.f
  by_cases h : (l0.length : Int) > 2000
  · rw [if_pos h]
  · have f1 := next_code l0
    have w1 : wrap64 (nextOf l0).2.2.2.2.2.2.2 = (nextOf l0).2.2.2.2.2.2.2 := w64 _ (by omega) (by omega)
    rw [if_neg h, lent_bytes l0 (by clear w1; omega), Option.bind_some, next_is l0 (by clear w1; omega) hb, Option.bind_some, rnext_is l0 (by clear w1; omega) hb, Option.bind_some, show known_.f = some true from rfl, Option.bind_some, if_pos rfl, if_pos rfl, w1, if_pos rfl, same_request, Option.bind_some, if_pos rfl, same_bytes, Option.bind_some]
end Go.Proofs.Ytemhlinodccokaa.Pure
