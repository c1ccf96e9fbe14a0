/- coaminglaw04.known answers true. -/
import Derived.Test.YtojecbigcamedaaSpellW
import Derived.Test.YtojecbigcamedaaPBasex
import Derived.Test.YtojecbigcamedaaLit
import Derived.Lib.SlBytesConst
set_option linter.unusedVariables false
set_option linter.unusedSimpArgs false
namespace Go.Proofs.Ytojecbigcamedaa
open Go.RowKit Go.Proofs.YtojecbigcamedaaW.PrintWords Go.Proofs.Ytojecbigcamedaa.PBase

theorem read_mz : spell_Read.f 10 ⟨#[109, 122]⟩ = some ([], 40) := by kernel_rfl
theorem read_MY : spell_Read.f 10 ⟨#[77, 89]⟩ = some ([], 40) := by kernel_rfl
theorem read_m : spell_Read.f 10 ⟨#[109]⟩ = some ([], 40) := by kernel_rfl
theorem write_foobar : spell_Write.f [102, 111, 111, 98, 97, 114] = some ⟨#[109, 122, 120, 119, 54, 121, 116, 98, 111, 105]⟩ := by kernel_rfl

def known_.f : Option Bool := some true
set_option maxHeartbeats 1000000 in
set_option maxRecDepth 100000 in
theorem known_.calls (r : Bool) (w : World) (h : known_.f = some r) :
    Calls Try.prog 8 #[] w fun e w' => e = .returned (.bool r) ∧ Below w.heap.size w w' := by
  obtain rfl := Option.some.inj h
  have kc := fun (w : World) (C : Array Value) (n c : Nat) => Lib.run_convert_bytes_const (P := Try.prog) w 22 5 C n c Try.underlying22 Try.underlying5
  go_enter Try.func8, Try.ntmps8
  go_wp2_with fail
  refine (spell_Read.calls 10 ⟨#[109, 122]⟩ [] 40 _ read_mz).mono ?_
  rintro e w1 ⟨v1, rfl, _, hb1⟩
  go_wp2_with fail
  refine (spell_Read.calls 10 ⟨#[77, 89]⟩ [] 40 _ read_MY).mono ?_
  rintro e w2 ⟨v2, rfl, _, hb2⟩
  go_wp2_with fail
  refine (spell_Read.calls 10 ⟨#[109]⟩ [] 40 _ read_m).mono ?_
  rintro e w3 ⟨v3, rfl, _, hb3⟩
  go_wp2_with fail
  refine (spell_Write.calls (some ⟨w3.heap.size, 0, none⟩) 6 [102, 111, 111, 98, 97, 114] _ _ (Lit.reads_new w3 _ _ _ .u8 [102, 111, 111, 98, 97, 114] rfl (by decide)) (by decide) write_foobar).mono ?_
  rintro e w4 ⟨rfl, hb4⟩
  have hb5 : Below w.heap.size w w4 := by
    have b3 : Below w.heap.size w w3 := below_then (below_then hb1 hb1.size hb2) (by have := hb1.size; have := hb2.size; omega) hb3
    exact below_then (Lit.below_alloc_ b3 b3.size _) (by have := b3.size; simp; omega) hb4
  clear hb4 hb3 hb2 hb1
  go_wp2_with fail
  go_ret
  exact ⟨rfl, hb5⟩
#print axioms known_.calls
end Go.Proofs.Ytojecbigcamedaa
