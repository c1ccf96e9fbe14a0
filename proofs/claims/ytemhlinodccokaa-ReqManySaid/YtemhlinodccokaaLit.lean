/- A block of whole numbers that was just laid reads as them. -/
import Derived.Test.YtemhlinodccokaaWWords
import Derived.Lib.Slices
set_option linter.unusedVariables false
namespace Go.Proofs.Ytemhlinodccokaa.Lit
open Go.RowKit Go.Proofs.YtemhlinodccokaaW.PrintWords

theorem cell_new (w : World) (C : Array Value) (e : TypeId) (fr : Nat × Nat) (j : Nat) : (w.alloc (.cells C e fr)).cell? ⟨w.heap.size, j, none⟩ = C[j]? := by
  have h : (w.alloc (.cells C e fr)).heap[w.heap.size]? = some (.cells C e fr) := by show (w.heap.push _)[w.heap.size]? = _; simp
  unfold World.cell?
  rw [h]
  rfl
theorem reads_block {w : World} {b : Nat} {C : Array Value} {e : TypeId} {fr : Nat × Nat} (h : w.heap[b]? = some (.cells C e fr)) (k : IntKind) (xs : List Int) (hC : C.toList = xs.map (Value.int k)) (hl : xs.length ≤ 9223372036854775807) : Kd.C (Kd.int k) w (some ⟨b, 0, none⟩) xs.length xs := by
  refine Kd.C_of_reads (d := 0) ⟨rfl, hl, fun hn => ⟨_, rfl, fun j hj => ?_⟩⟩
  have e1 : (⟨b, 0, none⟩ : Addr).add j = ⟨b, j, none⟩ := add_plain b j
  rw [e1]
  unfold World.cell?
  rw [h]
  show C[j]? = _
  have e2 : C[j]? = (xs.map (Value.int k))[j]? := by rw [← hC]; simp
  simp [e2, List.getElem?_eq_getElem hj, List.getD_eq_getElem?_getD]
theorem reads_new (w : World) (C : Array Value) (e : TypeId) (fr : Nat × Nat) (k : IntKind) (xs : List Int) (hC : C.toList = xs.map (Value.int k)) (hl : xs.length ≤ 9223372036854775807) : Kd.C (Kd.int k) (w.alloc (.cells C e fr)) (some ⟨w.heap.size, 0, none⟩) xs.length xs :=
  reads_block (C := C) (e := e) (fr := fr) (by show (w.heap.push _)[w.heap.size]? = _; simp) k xs hC hl
theorem below_alloc_ {B : Nat} {w W : World} (h : Below B w W) (hB : B ≤ W.heap.size) (o : Obj) : Below B w (W.alloc o) := h.alloc hB o
theorem two_reads (w : World) {o : Obj} (C : Array Value) (e : TypeId) {fr : Nat × Nat} (k : IntKind) (xs : List Int) (hC : C.toList = xs.map (Value.int k)) (hl : xs.length ≤ 9223372036854775807) : Kd.C (Kd.int k) ((w.alloc o).alloc (.cells C e fr)) (some ⟨w.heap.size + 1, 0, none⟩) xs.length xs :=
  reads_block (C := C) (e := e) (fr := fr) (by show ((w.heap.push _).push _)[_]? = _; simp only [Array.getElem?_push, Array.size_push, if_true]) k xs hC hl
theorem one_below {w0 w w1 : World} {o1 : Obj} (h : Below w0.heap.size w0 w) (hb : Below (w.alloc o1).heap.size (w.alloc o1) w1) : Below w0.heap.size w0 w1 :=
  below_then (below_alloc h _) (below_alloc h _).size hb
theorem two_below {w0 w w1 : World} {o1 o2 : Obj} (h : Below w0.heap.size w0 w) (hb : Below ((w.alloc o1).alloc o2).heap.size ((w.alloc o1).alloc o2) w1) : Below w0.heap.size w0 w1 :=
  below_then (below_alloc (below_alloc h _) _) (below_alloc (below_alloc h _) _).size hb
theorem two_C {w w1 : World} {o1 o2 : Obj} {k : IntKind} {A : Option Addr} {n : Nat} {xs : List Int} (h : Kd.C (Kd.int k) w A n xs) (hb : Below ((w.alloc o1).alloc o2).heap.size ((w.alloc o1).alloc o2) w1) : Kd.C (Kd.int k) w1 A n xs :=
  Kd.C_below (Kd.C_below h (below_alloc (below_alloc (Below.refl _ _) _) _)) hb
theorem first_of_two {w w1 : World} {o1 o2 : Obj} (hb : Below ((w.alloc o1).alloc o2).heap.size ((w.alloc o1).alloc o2) w1) : w1.heap[w.heap.size]? = some o1 := by
  refine (hb.block _ (by show w.heap.size < ((w.heap.push _).push _).size; simp only [Array.size_push]; omega)).trans ?_
  show ((w.heap.push _).push _)[_]? = _
  simp only [Array.getElem?_push, Array.size_push, if_true]
  rw [if_neg (by omega)]
end Go.Proofs.Ytemhlinodccokaa.Lit
