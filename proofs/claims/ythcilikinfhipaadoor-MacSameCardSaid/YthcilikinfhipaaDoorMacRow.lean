/- The listed table reads as the definition's numbers; what the rows of the laws of package mac share. -/
import Derived.Test.YthcilikinfhipaaDoorRows
import Derived.Test.YthcilikinfhipaaDoorCards
import Derived.Test.YthcilikinfhipaaDoorTie
import Derived.Test.YthcilikinfhipaaDoorMacL1
import Derived.WalkKit
import Derived.ProofKit
import Derived.LaidMore
import Derived.OpenShut
import Derived.Stop.Joined
import Derived.SevenTiedAt
import Derived.Below
import Derived.SizedLaws
namespace Go.Proofs.YthcilikinfhipaaDoor
open Go.ChangeShapes Go.WideShapes Go.ChangeAt Go.RowKit
set_option linter.unusedVariables false
theorem own : ownKnob Tryd.prog.godebug = none := by kernel_rfl
theorem laidOut : laidOutB Tryd.prog = true := by kernel_rfl
abbrev keysLaid : List (String × DataW Unit) := [("coaming/sha.keys", Rows.laid_coaming_sha_keys)]
theorem gKeys : Tryd.prog.globalNamed "coaming/sha.keys" = some 0 := by kernel_rfl
theorem tKeys : (Tryd.prog.globals[0]?).map (·.type) = some 51 := by kernel_rfl
theorem door_met (os : Os) (args : Array Value) : laidMetH Tryd.prog keysLaid ((World.doorLaid Tryd.prog 400 os).forCall (fun _ _ => 0) ⟨#[], args, []⟩).memory :=
  laidMetH_of_parts3 (fuel := 8) (laidMet_of_run' 8 (by kernel_rfl) (by kernel_rfl)) (by kernel_rfl) (by kernel_rfl)
theorem laid_at : (Rows.laid_coaming_sha_keys (H := Unit)) = .agg (Sh.keys.map fun k => .lit (.int .u32 k)) := rfl
theorem of_laid {W : World} (h : laidMetH Tryd.prog keysLaid W) : Sh.Ks W := by
  rw [MakeChecks.laidMetH_plain _ _ _ (by kernel_rfl)] at h
  obtain ⟨ps, ⟨g0, t0, cs0, f0, p0, q0, hg0, ht0, hv0, hd0, _, _⟩, _, _⟩ := h
  obtain rfl := Option.some.inj (gKeys.symm.trans hg0)
  obtain rfl := Option.some.inj (tKeys.symm.trans ht0)
  rw [laid_at] at hd0
  obtain ⟨xs, m1, rfl, hx1, hlen, hn3, hel⟩ := DataW.trod_array Tryd.underlying51 hd0
  have c38 : Tryd.prog.cellsOf 42 = 1 := by kernel_rfl
  intro i hi
  have h0 := hel i hi
  rw [c38, Nat.mul_one] at h0
  simp only [Prod.mk.injEq, DataW.agg.injEq] at hx1
  have hix : i < xs.length := by omega
  rw [List.getElem?_eq_getElem hix] at h0
  obtain ⟨k, e1, e2, _⟩ := DataW.trod_int Tryd.underlying42 h0
  have hk : (xs.map (·.1))[i]? = some (.lit (.int .u32 k)) := by rw [List.getElem?_map, List.getElem?_eq_getElem hix, e2]; rfl
  rw [← hx1.1, List.getElem?_map] at hk
  have hki : Sh.keys[i]? = some (Sh.keys.getD i 0) := by
    rw [List.getD_eq_getElem?_getD, List.getElem?_eq_getElem (by exact hi)]; rfl
  rw [hki] at hk
  have hkk : Sh.keys.getD i 0 = k := by simpa using hk
  rw [World.var?_cell hg0 hv0 i, hkk]
  have hc : (cs0.toList.drop i).take 1 = [.int .u32 k] := e1
  have : cs0.toList[i]? = some (.int .u32 k) := by
    have h2 : ((cs0.toList.drop i).take 1)[0]? = some (.int .u32 k) := by rw [hc]; rfl
    rw [List.getElem?_take, if_pos (by decide), List.getElem?_drop, Nat.add_zero] at h2
    exact h2
  simpa using this
def IsRow (k : IntKind) (w : World) (a : Option Addr) (len cap : Nat) (zs : List Int) : Prop :=
  (a = none ∧ len = 0 ∧ cap = 0 ∧ zs = []) ∨
  ∃ x, a = some x ∧ len ≤ cap ∧ cap ≤ maxLen ∧ zs.length = cap ∧ (∀ i, i < zs.length → w.cell? (x.add i) = some (.int k (zs.getD i 0))) ∧ ∀ n ∈ zs, (Lit.int k n).wf = true
open Go.Proofs.YthcilikinfhipaaDoorW.PrintWords in
/-- what a slice of bytes gives the walks -/
theorem IsRow.reads {W : World} {a : Option Addr} {len cap : Nat} {zs : List Int} (h : IsRow .u8 W a len cap zs) : ∃ l : List Int, l.length = len ∧ l.length ≤ cap ∧ l.length ≤ 9223372036854775807 ∧ Sh.Bytes l ∧ Kd.C (Kd.int .u8) W a l.length l := by
  rcases h with ⟨rfl, rfl, rfl, rfl⟩ | ⟨x, rfl, h1, h2, h3, h4, h5⟩
  · exact ⟨[], rfl, Nat.le_refl _, by simp, (by intro y hy; cases hy), Kd.C_of_reads (d := 0) ⟨rfl, by simp, fun h => absurd h (by simp)⟩⟩
  · have hm : maxLen ≤ 9223372036854775807 := by decide
    have hl : (zs.take len).length = len := by rw [List.length_take]; omega
    refine ⟨zs.take len, hl, by omega, by omega, ?_, ?_⟩
    · intro y hy
      have := h5 y (List.mem_of_mem_take hy)
      simp only [Lit.wf, IntKind.min, IntKind.max, IntKind.signed, IntKind.bits] at this
      simp at this
      omega
    · refine Kd.C_of_reads (d := 0) ⟨rfl, by omega, fun _ => ⟨x, rfl, fun j hj => ?_⟩⟩
      rw [h4 j (by omega)]
      rw [List.getD_eq_getElem?_getD, List.getD_eq_getElem?_getD, List.getElem?_take, if_pos (by omega)]
end Go.Proofs.YthcilikinfhipaaDoor
