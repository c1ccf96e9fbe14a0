/- coaminglaw04.SpellReads: spell.Read of any text is what the reference reads: for every input; no conditions. -/
import Derived.Test.YtojecbigcamedaaPSpellReadsx1
import Derived.Test.YtojecbigcamedaaSpellFnsC
namespace Go.Proofs.Ytojecbigcamedaa.Pure
open Go.RowKit Go.Proofs.Ytojecbigcamedaa.PSpellReads Go.Proofs.Ytojecbigcamedaa.PBase Go.Proofs.YtojecbigcamedaaW.PrintWords Go.Proofs.YtojecbigcamedaaW.PrintLast Go.Proofs.Ytojecbigcamedaa.Sp

theorem SpellReads : coaminglaw04_SpellReads.Pure := by
  intro s _
  refine ⟨1000000, ?_⟩
  unfold coaminglaw04_SpellReads.f
  by_cases h : (s.size : Int) > 1000
  · rw [if_pos h]
  · rw [if_neg h]
    have h1 := read_is s (by omega) 1000000 (by omega)
    have h2 := refRead_is s (by omega) 1000000 (by omega)
    have h3 := readOf_code (bs s)
    rw [h1, Option.bind_some, h2, Option.bind_some, show known_.f = some true from rfl, Option.bind_some, if_pos rfl]
    have h4 : wrap64 (readOf (bs s)).2 = (readOf (bs s)).2 := by rcases h3 with e | e <;> rw [e] <;> exact w64 _ (by omega) (by omega)
    rw [if_pos h4]
    unfold coamingref00_SameBytes.f
    rw [Option.bind_some, beq_self_eq_true]

end Go.Proofs.Ytojecbigcamedaa.Pure
