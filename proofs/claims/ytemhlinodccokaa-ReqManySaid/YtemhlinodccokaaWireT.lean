/- wire.Take: its deferred function, its loop, its answer. -/
import Derived.Test.YtemhlinodccokaaWireN
import Derived.Recover
import Derived.Outline
import Derived.Deep.DeepFit
set_option linter.unusedVariables false
set_option linter.unusedSimpArgs false
namespace Go.Proofs.Ytemhlinodccokaa
open Go.RowKit Go.Proofs.YtemhlinodccokaaW.PrintWords Go.Proofs.YtemhlinodccokaaW.PrintLast

namespace Wi
/-- the numbers at the front; what is left; false: there are too few bytes -/
def takes : List Int → List Int → List Int → List Int × List Int × Bool
  | b, [], acc => (acc, b, true)
  | b, w :: ws, acc => if b.length < wd w then ([], [], false) else takes (b.drop (wd w)) ws (acc ++ [num (b.take (wd w))])
theorem info64 : (Try.prog.info? 25).map (fun i => (i.zero, i.size, i.bytes)) = some (some (.int .u64 0), 1, 8) := by kernel_rfl

theorem width_is (n : Int) (w : World) : Calls Try.prog 34 #[.int .i64 n] w fun e w' => e = .returned (.int .i64 (wd n)) ∧ w = w' := by
  by_cases h1 : n = 1
  · subst h1
    go_enter Try.func34, Try.ntmps34
    go_wp2
    go_ret
    exact ⟨rfl, rfl⟩
  by_cases h2 : n = 2
  · subst h2
    go_enter Try.func34, Try.ntmps34
    go_wp2
    go_ret
    exact ⟨rfl, rfl⟩
  by_cases h4 : n = 4
  · subst h4
    go_enter Try.func34, Try.ntmps34
    go_wp2
    go_ret
    exact ⟨rfl, rfl⟩
  have b1 : (n == 1) = false := beq_eq_false_iff_ne.mpr h1
  have b2 : (n == 2) = false := beq_eq_false_iff_ne.mpr h2
  have b4 : (n == 4) = false := beq_eq_false_iff_ne.mpr h4
  have hw : Aside0 (wd n = 8) := ⟨by unfold wd; rw [if_neg h1, if_neg h2, if_neg h4]⟩
  clear h1 h2 h4
  go_enter Try.func34, Try.ntmps34
  go_wp2
  go_ret
  exact ⟨by rw [hw.out]; rfl, rfl⟩

theorem catch_panicking (p0 p1 p2 : Addr) (x0 x1 x2 : Value) (u : TypeId) (pv : Value) (older : List PanicEntry) (w : World)
    (h0 : w.cell? p0 = some x0) (z0 : w.frozen? p0 = false) (h1 : (w.setCell p0 (.slice none 0 0)).cell? p1 = some x1) (z1 : (w.setCell p0 (.slice none 0 0)).frozen? p1 = false)
    (h2 : ((w.setCell p0 (.slice none 0 0)).setCell p1 (.slice none 0 0)).cell? p2 = some x2) (z2 : ((w.setCell p0 (.slice none 0 0)).setCell p1 (.slice none 0 0)).frozen? p2 = false) :
    CallsD Try.prog 32 #[.pointer (some p0), .pointer (some p1), .pointer (some p2)] (.panicking ({ v := .iface u pv, recovered := false } :: older)) w fun e u' w' =>
      e = .returned (.tuple #[]) ∧ u' = .panicking ({ v := .iface u pv, recovered := true } :: older) ∧ w' = ((w.setCell p0 (.slice none 0 0)).setCell p1 (.slice none 0 0)).setCell p2 (.bool false) := by
  refine callsD_of_wpS Try.func32 rfl fun c₀ cs hu => ?_
  apply wpS_seq
  apply wpS_region
  simp [wpOpsS, go_sem, recoverD, hu, Try.ntmps32, Exit.thenS]
  apply wpS_seq
  apply wpS_region
  simp [wpOpsS, go_sem, Exit.thenS]
  refine wpS_cond (t := true) (by simp [Act.eval, Array.replicate]) ?_
  simp only [if_true]
  apply wpS_region
  simp [wpOpsS, go_sem, h0, z0, h1, z1, h2, z2, bodyPostS, results, Try.results32]

theorem catch_idle (p0 p1 p2 : Addr) (w : World) :
    CallsD Try.prog 32 #[.pointer (some p0), .pointer (some p1), .pointer (some p2)] .returning w fun e u' w' => e = .returned (.tuple #[]) ∧ u' = .returning ∧ w' = w := by
  refine callsD_of_wpS Try.func32 rfl fun c₀ cs hu => ?_
  apply wpS_seq
  apply wpS_region
  simp [wpOpsS, go_sem, recoverD, hu, Try.ntmps32, Exit.thenS]
  apply wpS_seq
  apply wpS_region
  simp [wpOpsS, go_sem, Exit.thenS]
  refine wpS_cond (t := false) (by simp [Act.eval, Array.replicate]) ?_
  simp only [Bool.false_eq_true, if_false]
  refine wpS_of_wp (wp_skip ?_)
  cases c₀
  simp_all [bodyPostS, results, Try.results32]
end Wi
end Go.Proofs.Ytemhlinodccokaa
