/- coaminglaw04.SpellWrites: spell.Write of any bytes is what the reference writes: for every input; no conditions. -/
import Derived.Test.YtojecbigcamedaaPSpellWritesx1
import Derived.Test.YtojecbigcamedaaSpellFnsC
namespace Go.Proofs.Ytojecbigcamedaa.Pure
open Go.RowKit Go.Proofs.Ytojecbigcamedaa.PSpellWrites Go.Proofs.Ytojecbigcamedaa.PBase Go.Proofs.YtojecbigcamedaaW.PrintWords Go.Proofs.YtojecbigcamedaaW.PrintLast Go.Proofs.Ytojecbigcamedaa.Sp

theorem SpellWrites : coaminglaw04_SpellWrites.Pure := by
  intro l0 _ _ hw
  have hb := bytes_of_wf hw
  refine ⟨1000000, ?_⟩
  unfold coaminglaw04_SpellWrites.f
  by_cases h : (l0.length : Int) > 1000
  · rw [if_pos h]
  · rw [if_neg h]
    have h1 := write_is l0 (by omega) hb
    have h2 := refWrite_is l0 (by omega) hb 1000000 (by omega)
    rw [show known_.f = some true from rfl, Option.bind_some, if_pos rfl, h1, Option.bind_some, h2, Option.bind_some, beq_self_eq_true]

end Go.Proofs.Ytojecbigcamedaa.Pure
