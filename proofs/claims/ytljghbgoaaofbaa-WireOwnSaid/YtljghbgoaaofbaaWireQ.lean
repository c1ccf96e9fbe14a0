/- coaminglaw06.known answers true. -/
import Derived.Test.YtljghbgoaaofbaaWireP
import Derived.Test.YtljghbgoaaofbaaLit
import Derived.Lib.SlBytesConst
set_option linter.unusedVariables false
set_option linter.unusedSimpArgs false
namespace Go.Proofs.Ytljghbgoaaofbaa
open Go.RowKit Go.Proofs.YtljghbgoaaofbaaW.PrintWords

theorem pack_ex : wire_Pack.f 20 [2, 1] [258, 3] = some [1, 2, 3] := by decide +kernel
theorem take_ex : wire_Take.f [1, 2, 3] [1, 2] = some ([1, 515], [], true) := by decide +kernel
theorem take_no : wire_Take.f [1] [2] = some ([], [], false) := by decide +kernel

theorem two_reads (w : World) {o : Obj} (C : Array Value) (e : TypeId) {fr : Nat × Nat} (k : IntKind) (xs : List Int) (hC : C.toList = xs.map (Value.int k)) (hl : xs.length ≤ 9223372036854775807) : Kd.C (Kd.int k) ((w.alloc o).alloc (.cells C e fr)) (some ⟨w.heap.size + 1, 0, none⟩) xs.length xs :=
  Lit.reads_block (C := C) (e := e) (fr := fr) (by show ((w.heap.push _).push _)[_]? = _; simp only [Array.getElem?_push, Array.size_push, if_true]) k xs hC hl
theorem two_below {w0 w w1 : World} {o1 o2 : Obj} (h : Below w0.heap.size w0 w) (hb : Below ((w.alloc o1).alloc o2).heap.size ((w.alloc o1).alloc o2) w1) : Below w0.heap.size w0 w1 :=
  below_then (below_alloc (below_alloc h _) _) (below_alloc (below_alloc h _) _).size hb
theorem two_C {w w1 : World} {o1 o2 : Obj} {k : IntKind} {A : Option Addr} {n : Nat} {xs : List Int} (h : Kd.C (Kd.int k) w A n xs) (hb : Below ((w.alloc o1).alloc o2).heap.size ((w.alloc o1).alloc o2) w1) : Kd.C (Kd.int k) w1 A n xs :=
  Kd.C_below (Kd.C_below h (below_alloc (below_alloc (Below.refl _ _) _) _)) hb

def known_.f : Option Bool := some true
set_option maxHeartbeats 1000000 in
set_option maxRecDepth 100000 in
theorem known_.calls (r : Bool) (w : World) (h : known_.f = some r) :
    Calls Try.prog 8 #[] w fun e w' => e = .returned (.bool r) ∧ Below w.heap.size w w' := by
  obtain rfl := Option.some.inj h
  have kc := fun (w : World) (C : Array Value) (n c : Nat) => Lib.run_convert_bytes_const (P := Try.prog) w 26 5 C n c Try.underlying26 Try.underlying5
  go_enter Try.func8, Try.ntmps8
  go_wp2_with fail
  refine (wire_Pack.calls 20 (some ⟨w.heap.size, 0, none⟩) 2 [2, 1] (some ⟨w.heap.size + 1, 0, none⟩) 2 [258, 3] _ _ ?r0 (by decide) ?r1 (by decide) pack_ex).mono ?_
  case r0 => exact Kd.C_below (Lit.reads_new w _ _ _ .i64 [2, 1] rfl (by decide)) (below_alloc (Below.refl _ _) _)
  case r1 => exact two_reads w _ _ .u64 [258, 3] rfl (by decide)
  rintro e w1 ⟨v1, rfl, hr1, hb1⟩
  obtain ⟨A1, c1, rfl, hl1, hC1⟩ := Kd.R_reads hr1
  have HC1 := Aside0.mk hC1
  have HB1 := Aside0.mk (two_below (Below.refl w.heap.size w) hb1)
  clear hr1 hC1 hb1
  go_wp2_with fail
  refine (wire_Take.calls (some ⟨w1.heap.size, 0, none⟩) 3 [1, 2, 3] (some ⟨w1.heap.size + 1, 0, none⟩) 2 [1, 2] _ _ _ _ ?r0 (by decide) ?r1 (by decide) take_ex).mono ?_
  case r0 => exact Kd.C_below (Lit.reads_new w1 _ _ _ .u8 [1, 2, 3] rfl (by decide)) (below_alloc (Below.refl _ _) _)
  case r1 => exact two_reads w1 _ _ .i64 [1, 2] rfl (by decide)
  rintro e w2 ⟨v2, v3, rfl, hr2, hr3, hb2⟩
  obtain ⟨A2, c2, rfl, hl2, hC2⟩ := Kd.R_reads hr2
  obtain ⟨A3, c3, rfl, hl3, hC3⟩ := Kd.R_reads hr3
  have HC1 := Aside0.mk (two_C HC1.out hb2)
  have HC2 := Aside0.mk hC2
  have HB2 := Aside0.mk (two_below HB1.out hb2)
  clear hr2 hr3 hC2 hC3 hb2
  go_wp2_with fail
  refine (wire_Take.calls (some ⟨w2.heap.size, 0, none⟩) 1 [1] (some ⟨w2.heap.size + 1, 0, none⟩) 1 [2] _ _ _ _ ?r0 (by decide) ?r1 (by decide) take_no).mono ?_
  case r0 => exact Kd.C_below (Lit.reads_new w2 _ _ _ .u8 [1] rfl (by decide)) (below_alloc (Below.refl _ _) _)
  case r1 => exact two_reads w2 _ _ .i64 [2] rfl (by decide)
  rintro e w3 ⟨v4, v5, rfl, hr4, hr5, hb3⟩
  have HC1 := Aside0.mk (two_C HC1.out hb3)
  have HC2 := Aside0.mk (two_C HC2.out hb3)
  have HB3 := Aside0.mk (two_below HB2.out hb3)
  clear hr4 hr5 hb3
  have hcv := Kd.C_string (P := Try.prog) (A := A1) (c := c1) Try.underlying26 Try.underlying5 Try.underlying9 HC1.out
  rw [show strOfNums [1, 2, 3] = ⟨#[1, 2, 3]⟩ by rfl] at hcv
  change Sem.run _ (convert _ _ (Value.slice A1 3 c1)) _ = _ at hcv
  obtain ⟨ad, ead, hx⟩ := Kd.at_int HC2.out 1 (by decide) (by decide)
  cases ead
  have hx' : w3.cell? ⟨ad.block, ad.off + 1, none⟩ = some (.int .u64 515) := by simpa [rd, Addr.add] using hx
  clear hx
  go_wp2_with fail
  trace_state
  go_ret
  exact ⟨rfl, HB3.out⟩
#print axioms known_.calls
end Go.Proofs.Ytljghbgoaaofbaa
