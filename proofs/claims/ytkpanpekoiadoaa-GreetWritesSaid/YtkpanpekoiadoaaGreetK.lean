/- coaminglaw07.known answers true. -/
import Derived.Test.YtkpanpekoiadoaaWireP
import Derived.Test.YtkpanpekoiadoaaLit
import Derived.Test.YtkpanpekoiadoaaPBasex
import Derived.Lib.SlBytesConst
set_option linter.unusedVariables false
set_option linter.unusedSimpArgs false
namespace Go.Proofs.Ytkpanpekoiadoaa
open Go.RowKit Go.Proofs.YtkpanpekoiadoaaW.PrintWords Go.Proofs.Ytkpanpekoiadoaa.PBase

theorem flags_ex : greet_Flags.f [0, 0, 0, 3] = some (true, 4, 0) := by decide +kernel
theorem next_ex : greet_Next.f [73, 72, 65, 86, 69, 79, 80, 84, 0, 0, 0, 2, 0, 0, 0, 0] = some (2, [], 16, 0) := by decide +kernel
theorem asked_ex : greet_Asked.f 10 [0, 0, 0, 1, 97, 0, 0] = some (⟨#[97]⟩, [], 0) := by decide +kernel

theorem one_below {w0 w w1 : World} {o1 : Obj} (h : Below w0.heap.size w0 w) (hb : Below (w.alloc o1).heap.size (w.alloc o1) w1) : Below w0.heap.size w0 w1 :=
  below_then (below_alloc h _) (below_alloc h _).size hb

def known_.f : Option Bool := some true
set_option maxHeartbeats 1000000 in
set_option maxRecDepth 100000 in
theorem known_.calls (r : Bool) (w : World) (h : known_.f = some r) :
    Calls Try.prog 15 #[] w fun e w' => e = .returned (.bool r) ∧ Below w.heap.size w w' := by
  obtain rfl := Option.some.inj h
  go_enter Try.func15, Try.ntmps15
  go_wp2_with fail
  refine (greet_Flags.calls (some ⟨w.heap.size, 0, none⟩) 4 [0, 0, 0, 3] _ _ _ _ ?r0 (by decide) flags_ex).mono ?_
  case r0 => exact Lit.reads_new w _ _ _ .u8 [0, 0, 0, 3] rfl (by decide)
  rintro e w1 ⟨rfl, hb1⟩
  have HB1 := Aside0.mk (one_below (Below.refl w.heap.size w) hb1)
  clear hb1
  go_wp2_with fail
  refine (greet_Next.calls (some ⟨w1.heap.size, 0, none⟩) 16 [73, 72, 65, 86, 69, 79, 80, 84, 0, 0, 0, 2, 0, 0, 0, 0] _ _ _ _ _ ?r0 (by decide) next_ex).mono ?_
  case r0 => exact Lit.reads_new w1 _ _ _ .u8 [73, 72, 65, 86, 69, 79, 80, 84, 0, 0, 0, 2, 0, 0, 0, 0] rfl (by decide)
  rintro e w2 ⟨v2, rfl, hr2, hb2⟩
  have HB2 := Aside0.mk (one_below HB1.out hb2)
  obtain ⟨A2, c2, rfl, hl2, hC2⟩ := Kd.R_reads hr2
  clear hb2 hr2 hC2
  go_wp2_with fail
  refine (greet_Asked.calls 10 (some ⟨w2.heap.size + 1, 0, none⟩) 7 [0, 0, 0, 1, 97, 0, 0] _ _ _ _ ?r0 (by decide) asked_ex).mono ?_
  case r0 => exact Lit.two_reads w2 _ _ .u8 [0, 0, 0, 1, 97, 0, 0] rfl (by decide)
  rintro e w3 ⟨v3, rfl, hr3, hb3⟩
  have HB3 := Aside0.mk (Lit.two_below HB2.out hb3)
  have hcell : w3.cell? ⟨w2.heap.size, 0, none⟩ = some (.int .u32 2) := by unfold World.cell?; rw [Lit.first_of_two hb3]; rfl
  obtain ⟨A3, c3, rfl, hl3, hC3⟩ := Kd.R_reads hr3
  clear hb3 hr3 hC3
  go_wp2_with fail
  go_ret
  exact ⟨rfl, HB3.out⟩
#print axioms known_.calls
end Go.Proofs.Ytkpanpekoiadoaa
