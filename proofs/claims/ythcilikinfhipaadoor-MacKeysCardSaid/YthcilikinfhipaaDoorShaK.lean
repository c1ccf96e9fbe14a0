/- The contracts of the laws' own functions: known, sum. -/
import Derived.Test.YthcilikinfhipaaDoorShaRS
import Derived.Lib.SlBytesConst
set_option linter.unusedVariables false
set_option linter.unusedSimpArgs false
namespace Go.Proofs.YthcilikinfhipaaDoor
open Go.RowKit Go.Proofs.YthcilikinfhipaaDoorW.PrintWords Go.Proofs.YthcilikinfhipaaDoorW.PrintLast Go.Proofs.YthcilikinfhipaaDoorW.PrintMore
namespace Sh
theorem dig_abc : dig [97, 98, 99] = [186, 120, 22, 191, 143, 1, 207, 234, 65, 65, 64, 222, 93, 174, 34, 35, 176, 3, 97, 163, 150, 23, 122, 156, 180, 16, 255, 97, 242, 0, 21, 173] := by kernel_rfl
theorem dig_length (l : List Int) : (dig l).length = 32 := by rw [dig]; exact outs_length _
theorem below_of_gb {w a b : World} {k : Nat} (h : Below w.heap.size w a) (hg : a.grownBy b (some k)) (hk : w.heap.size ≤ k) : Below w.heap.size w b :=
  ⟨hg.os.trans h.os, hg.tape.trans h.tape, hg.output.trans h.output, Nat.le_trans h.size hg.size, fun j hj => (hg.block j (Nat.lt_of_lt_of_le hj h.size) (fun e => by have := Option.some.inj e; omega)).trans (h.block j hj)⟩
theorem Ha.below {w W : World} {b : Nat} {bs rest : List Int} (h : Ha w b bs rest) (hb : Below w.heap.size w W) : Ha W b bs rest :=
  ⟨h.len, h.tl, h.by_, (hb.block _ (Array.getElem?_eq_some_iff.1 h.h).1).trans h.h⟩
theorem far_of_C {w : World} {A : Option Addr} {n : Nat} {l : List Int} (h : Kd.C (Kd.int .u8) w A n l) (hl : 0 < l.length) {a : Addr} (e : A = some a) {b : Nat} (hb : w.heap.size ≤ b) : a.block ≠ b := by
  obtain ⟨h1, _, h3⟩ := Kd.reads_of_C (d := (0 : Int)) h
  obtain ⟨ad, e2, hc⟩ := h3 (by omega)
  obtain rfl := Option.some.inj (e.symm.trans e2)
  have := World.block_lt_of_cell? w _ (hc 0 (by omega))
  rw [add_block] at this
  omega
theorem Ha.lt {w : World} {b : Nat} {bs rest : List Int} (h : Ha w b bs rest) : b < w.heap.size := (Array.getElem?_eq_some_iff.1 h.h).1
end Sh
end Go.Proofs.YthcilikinfhipaaDoor
