/- A request that comes in, by its kind. -/
import Derived.Test.YtemhlinodccokaaOpen
import Derived.Test.YtemhlinodccokaaProg
set_option linter.unusedVariables false
set_option linter.unusedSimpArgs false
namespace Go.Proofs.Ytemhlinodccokaa
open Go.RowKit Go.Proofs.YtemhlinodccokaaW.PrintWords
/-- a request: flags, kind, cookie, offset, length, data -/
abbrev Rq := Int × Int × Int × Int × Int × List Int
abbrev kRq : Kd Rq := Kd.pair (Kd.int .u16) (Kd.pair (Kd.int .u16) (Kd.pair (Kd.int .u64) (Kd.pair (Kd.int .u64) (Kd.pair (Kd.int .u32) (Kd.slice 5 (Kd.int .u8))))))
/-- its numbers are of their kinds -/
def RqWf (r : Rq) : Prop := (Lit.int .u16 r.1).wf = true ∧ (Lit.int .u16 r.2.1).wf = true ∧ (Lit.int .u64 r.2.2.1).wf = true ∧ (Lit.int .u64 r.2.2.2.1).wf = true ∧ (Lit.int .u32 r.2.2.2.2.1).wf = true ∧ r.2.2.2.2.2.length ≤ maxLen ∧ ∀ x ∈ r.2.2.2.2.2, (Lit.int .u8 x).wf = true
theorem opens_bytes : Opens Try.prog 22 (Kd.slice 5 (Kd.int .u8)) (fun xs => xs.length ≤ maxLen ∧ ∀ x ∈ xs, (Lit.int .u8 x).wf = true) := opens_slice Try.underlying22 (by kernel_rfl) (opens_int Try.underlying5)
theorem opens_request : Opens Try.prog 28 kRq RqWf := by
  intro H enc w base spare held fuel cs x h
  obtain ⟨hl, hf⟩ := struct_fields Try.underlying28 h
  obtain ⟨a0, k0, w0⟩ := hf 0 _ rfl (opens_int Try.underlying24)
  obtain ⟨a1, k1, w1⟩ := hf 1 _ rfl (opens_int Try.underlying24)
  obtain ⟨a2, k2, w2⟩ := hf 2 _ rfl (opens_int Try.underlying25)
  obtain ⟨a3, k3, w3⟩ := hf 3 _ rfl (opens_int Try.underlying25)
  obtain ⟨a4, k4, w4⟩ := hf 4 _ rfl (opens_int Try.underlying26)
  obtain ⟨a5, k5, w5⟩ := hf 5 _ rfl opens_bytes
  have c16 : Try.prog.cellsOf 24 = 1 := by kernel_rfl
  have c64 : Try.prog.cellsOf 25 = 1 := by kernel_rfl
  have c32 : Try.prog.cellsOf 26 = 1 := by kernel_rfl
  have cs1 : Try.prog.cellsOf 22 = 1 := by kernel_rfl
  have c6 : Try.prog.cellsOf 28 = 6 := by kernel_rfl
  rw [c6] at hl
  change (Kd.int .u16).K w a0 ((cs.drop 0).take (Try.prog.cellsOf 24)) at k0
  rw [c16] at k0
  change (Kd.int .u16).K w a1 ((cs.drop 1).take (Try.prog.cellsOf 24)) at k1
  rw [c16] at k1
  change (Kd.int .u64).K w a2 ((cs.drop 2).take (Try.prog.cellsOf 25)) at k2
  rw [c64] at k2
  change (Kd.int .u64).K w a3 ((cs.drop 3).take (Try.prog.cellsOf 25)) at k3
  rw [c64] at k3
  change (Kd.int .u32).K w a4 ((cs.drop 4).take (Try.prog.cellsOf 26)) at k4
  rw [c32] at k4
  change (Kd.slice 5 (Kd.int .u8)).K w a5 ((cs.drop 5).take (Try.prog.cellsOf 22)) at k5
  rw [cs1] at k5
  refine ⟨(a0, a1, a2, a3, a4, a5), ?_, w0, w1, w2, w3, w4, w5.1, w5.2⟩
  match cs, hl with
  | [y0, y1, y2, y3, y4, y5], _ => exact pairK k0 (pairK k1 (pairK k2 (pairK k3 (pairK k4 k5))))
/-- a request's cells, read -/
theorem rq_cells {w : World} {r : Rq} {cs : List Value} (h : kRq.K w r cs) : ∃ A c, cs = [.int .u16 r.1, .int .u16 r.2.1, .int .u64 r.2.2.1, .int .u64 r.2.2.2.1, .int .u32 r.2.2.2.2.1, .slice A r.2.2.2.2.2.length c] ∧ r.2.2.2.2.2.length ≤ c ∧ Kd.C (Kd.int .u8) w A r.2.2.2.2.2.length r.2.2.2.2.2 := by
  obtain ⟨_, _, rfl, rfl, _, _, rfl, rfl, _, _, rfl, rfl, _, _, rfl, rfl, _, _, rfl, rfl, A, c, rfl, hl, hC⟩ := h
  exact ⟨A, c, rfl, hl, hC⟩
end Go.Proofs.Ytemhlinodccokaa
