/- slices.Clone at []byte: a row of the call's own with the same bytes. -/
import Derived.Test.YtemhlinodccokaaProg
import Derived.Test.YtemhlinodccokaaWWords
import Derived.Test.YtemhlinodccokaaWLast
import Derived.Test.YtemhlinodccokaaWMore
import Derived.Deep.LoopGhost
import Derived.WalkSpells
import Derived.Outline
set_option linter.unusedVariables false
set_option linter.unusedSimpArgs false
namespace Go.Proofs.Ytemhlinodccokaa
open Go.RowKit Go.Proofs.YtemhlinodccokaaW.PrintWords Go.Proofs.YtemhlinodccokaaW.PrintLast

namespace Cl
theorem infoByte : (Try.prog.info? 5).map (fun i => (i.zero, i.size, i.bytes)) = some (some (.int .u8 0), 1, 1) := by kernel_rfl
end Cl

def clone_.f (l : List Int) : Option (List Int) := if l.length < 140737488355328 then some l else none
set_option maxHeartbeats 1000000 in
set_option maxRecDepth 100000 in
theorem clone_.calls (A0 : Option Addr) (c0 : Nat) (l0 : List Int) (r : List Int) (w : World) (hr0 : Kd.C (Kd.int .u8) w A0 l0.length l0) (hc0 : l0.length ≤ c0) (h : clone_.f l0 = some r) :
    Calls Try.prog 26 #[.slice A0 l0.length c0] w fun e w' => ∃ v0_ : Value, e = .returned (v0_) ∧ Kd.R (Kd.int .u8) 5 w' w.heap.size (fun _ => True) v0_ r ∧ Below w.heap.size w w' := by
  have HL : Aside0 (l0.length < 140737488355328 ∧ l0 = r) := ⟨by
    unfold clone_.f at h
    by_cases c : l0.length < 140737488355328
    · rw [if_pos c] at h; exact ⟨c, Option.some.inj h⟩
    · rw [if_neg c] at h; cases h⟩
  clear h
  have HR0 := Aside0.mk hr0
  have heq := fun (w : World) => Lib.run_eql_slice_nil (P := Try.prog) w 22 5 A0 l0.length c0 0 0 Try.underlying22
  cases A0 with
  | none =>
    have HE : Aside0 (l0 = []) := ⟨by
      rcases Nat.eq_zero_or_pos l0.length with h0 | h0
      · exact List.eq_nil_of_length_eq_zero h0
      · obtain ⟨ad, e, _⟩ := hr0.2.2 h0; cases e⟩
    clear hr0
    go_enter Try.func26, Try.ntmps26
    go_wp2_with fail
    go_ret
    refine ⟨_, rfl, ?_, Below.refl _ _⟩
    rw [← HL.out.2, HE.out]
    exact Kd.R_nil _ _ _ _ _
  | some ad =>
    clear hr0
    go_enter Try.func26, Try.ntmps26
    have HM := Aside0.mk (World.ownsRow_made (base := w.heap.size) (e := 5) (size := 1) w #[] 0 (Nat.le_refl _) (by unfold maxLen; omega) rfl)
    go_wp2_with (at_builtin; refine Kd.R_append_rows (Kd.int .u8) (w0 := w) w.heap.size rfl (.tmp 5) (.tmp 6) 22 5 (.int .u8 0) 1 rfl Try.underlying22 Cl.infoByte rfl (by decide) (by omega) (.slice (some ⟨w.heap.size, 0, none⟩) 0 0) ([] : List Int) l0 _ _ _ (fun _ => True) (fun _ => False) rfl rfl ?aO ?aR (fun _ _ h => h) (fun _ h => h.elim) (fun _ _ => trivial) ?aB ?aS ?aL ?_)
    case aO => exact Kd.R_of_own HM.out (fun _ _ => trivial)
    case aR => exact Kd.C_below HR0.out (below_alloc (Below.refl _ _) _)
    case aB => exact below_alloc (Below.refl _ _) _
    case aS => simp
    case aL => have := HL.out.1; simp; omega
    intro v1 w1 ho hb _ _
    have HO := Aside0.mk ho
    have HB := Aside0.mk hb
    clear ho hb
    go_wp2_with fail
    go_ret
    refine ⟨_, rfl, ?_, HB.out⟩
    rw [← HL.out.2]
    exact HO.out
#print axioms clone_.calls
end Go.Proofs.Ytemhlinodccokaa
