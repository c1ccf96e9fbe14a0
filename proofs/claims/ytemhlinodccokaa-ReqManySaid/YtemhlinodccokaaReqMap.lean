/- A map that is owned, or came in, answers look-ups. -/
import Derived.Test.YtemhlinodccokaaReqP
import Derived.Maps.OwnOps
import Derived.Maps.OwnSet
import Derived.Maps.Views
set_option linter.unusedVariables false
set_option linter.unusedSimpArgs false
namespace Go.Proofs.Ytemhlinodccokaa.Wi
open Go.RowKit Go.Proofs.YtemhlinodccokaaW.PrintWords Go.Maps
theorem law : Keyed Try.prog 25 := int_keyed Try.underlying25
theorem zero32 (w : World) : (zeroValue 26).run Try.prog w = .ok (.int .u32 0) w := by kernel_rfl
theorem wf64 {k : Int} (h0 : 0 ≤ k) (h1 : k ≤ 18446744073709551615) : (Lit.int .u64 k).wf = true := by
  simp [Lit.wf, IntKind.min, IntKind.max, IntKind.signed, IntKind.bits]
  omega
theorem of_wf32 {k : Int} (h : (Lit.int .u32 k).wf = true) : 0 ≤ k ∧ k ≤ 4294967295 := by
  simp [Lit.wf, IntKind.min, IntKind.max, IntKind.signed, IntKind.bits] at h
  omega
theorem wf32 {k : Int} (h0 : 0 ≤ k) (h1 : k ≤ 4294967295) : (Lit.int .u32 k).wf = true := by
  simp [Lit.wf, IntKind.min, IntKind.max, IntKind.signed, IntKind.bits]
  omega
/-- what a map has at a key -/
def valOf {H : Type} (D : DataW H) (k : Int) : Int :=
  match D.atKey (.int .u64 k) (.lit (.int .u32 0)) with
  | .lit (.int _ c) => if (Lit.int .u32 c).wf = true then c else 0
  | _ => 0
theorem valOf_is {H : Type} {D : DataW H} {k c : Int} (h : D.atKey (.int .u64 k) (.lit (.int .u32 0)) = .lit (.int .u32 c)) (hw : (Lit.int .u32 c).wf = true) : valOf D k = c := by
  unfold valOf
  rw [h]
  simp only
  rw [if_pos hw]
theorem valOf_range {H : Type} (D : DataW H) (k : Int) : 0 ≤ valOf D k ∧ valOf D k ≤ 4294967295 := by
  unfold valOf
  split
  · split
    · rename_i h; exact of_wf32 h
    · omega
  · omega
theorem Map_of_owns {H : Type} {w : World} {b n : Nat} {D : DataW H} (h : w.ownsMap Try.prog 25 (plainElem Try.prog 26) b n D) : Map w (.map (some b)) (valOf D) := by
  refine ⟨valOf_range D, fun W hb k h0 h1 => ?_⟩
  have hW : W.ownsMap Try.prog 25 (plainElem Try.prog 26) b n D := h.kept (grown_of_below hb none) (by simp)
  obtain ⟨c, hrun, hat, hwc⟩ := hW.lookup_int law Try.underlying41 Try.underlying26 (zero32 W) (keyOf_int_mk Try.underlying25 (wf64 h0 h1))
  rw [valOf_is hat hwc]
  exact hrun
theorem Map_nil (w : World) : Map w (.map none) (fun _ => 0) := by
  refine ⟨fun _ => ⟨Int.le_refl _, by show (0 : Int) ≤ 4294967295; decide⟩, fun W hb k h0 h1 => ?_⟩
  have := look_nil (P := Try.prog) (w := W) false law Try.underlying41 (zero32 W) (keyOf_int_mk Try.underlying25 (wf64 h0 h1))
  exact this
end Go.Proofs.Ytemhlinodccokaa.Wi
