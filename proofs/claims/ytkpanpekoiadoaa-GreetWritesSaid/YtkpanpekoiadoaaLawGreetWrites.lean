/- The row of coaminglaw07.GreetWrites, out of its plain law and the printed walk: after the pattern of a printed Law text, for a parameter of struct type. -/
import Derived.Test.YtkpanpekoiadoaaRows
import Derived.Test.YtkpanpekoiadoaaPGreetWritesx4
import Derived.Test.YtkpanpekoiadoaaPureGreetWrites
import Derived.WalkKit
import Derived.ProofKit
import Derived.OpenShut
import Derived.ShutString
import Derived.ChangeOld
import Derived.Below
import Derived.SizedLaws
import Derived.Test.YtkpanpekoiadoaaWSized
namespace Go.Proofs.Ytkpanpekoiadoaa.greetWrites
open Go.ChangeShapes Go.WideShapes Go.ChangeAt Go.RowKit
open Go.ChangeMaps (open_string shut_string)
set_option linter.unusedVariables false
set_option linter.unusedSimpArgs false
theorem own : ownKnob Try.prog.godebug = none := by kernel_rfl
theorem laidOut : laidOutB Try.prog = true := by kernel_rfl
def IsRow (k : IntKind) (w : World) (a : Option Addr) (len cap : Nat) (zs : List Int) : Prop :=
  (a = none ∧ len = 0 ∧ cap = 0 ∧ zs = []) ∨
  ∃ x, a = some x ∧ len ≤ cap ∧ cap ≤ maxLen ∧ zs.length = cap ∧ (∀ i, i < zs.length → w.cell? (x.add i) = some (.int k (zs.getD i 0))) ∧ ∀ n ∈ zs, (Lit.int k n).wf = true
theorem walk (a0 a1 : Int) (a2 : Bool) (b c : Int) (a3 : Option Addr) (len3 cap3 : Nat) (z3 : List Int) (d : Int) (no : Bool) (w : World) (w3 : IsRow .u8 w a3 len3 cap3 z3) :
    Calls Try.prog 8 #[.agg #[.int .u32 a0, .int .u64 a1, .bool a2], .int .u32 b, .int .u32 c, .slice a3 len3 cap3, .int .i64 d, .bool no] w fun e w' => e = .returned (.bool true) ∧ Below w.heap.size w w' := by
  obtain ⟨l3, rfl, hr3, hm3, hw3, hc3⟩ := Go.Proofs.YtkpanpekoiadoaaW.PrintWords.ReadsInt.ofRowC w3
  obtain ⟨k, h⟩ := Pure.GreetWrites a0 a1 a2 b c l3 d no
  refine (PGreetWrites.coaminglaw07_GreetWrites.calls k a0 a1 a2 b c _ _ l3 d no true w (Go.Proofs.YtkpanpekoiadoaaW.PrintWords.Kd.C_of_reads (d := (0 : Int)) (h1 := fun _ => rfl) hr3) hc3 h).mono ?_
  rintro e w' ⟨rfl, hd⟩
  exact ⟨rfl, hd⟩
theorem open_export {H : Type} {enc : TypeId × Value → H} {W : World} {base b0 : Nat} {sp : Nat → Bool} {held : Bool} {r : Reach} {v : Value} {d : DataW H} {ps : List MemPlace} (hval : Value.okWide Try.prog W r b0 51 v) (h : DataW.Trod enc Try.prog W base sp held 51 v d ps) :
    ∃ a b c, v = .agg #[.int .u32 a, .int .u64 b, .bool c] := by
  obtain ⟨fuel, hf⟩ := h
  obtain ⟨cs, rfl⟩ : ∃ cs, v = .agg cs := by
    unfold Value.okWide at hval
    rw [Try.underlying51] at hval
    obtain ⟨cs, h, _⟩ := hval
    exact ⟨cs, h⟩
  cases fuel with
  | zero => simp [DataW.trod] at hf
  | succ fuel =>
    have hc : Try.prog.cellsOf 51 = 3 := by kernel_rfl
    have hc1 : Try.prog.cellsOf 30 = 1 := by kernel_rfl
    have hc2 : Try.prog.cellsOf 49 = 1 := by kernel_rfl
    have hc3 : Try.prog.cellsOf 4 = 1 := by kernel_rfl
    obtain ⟨l, rfl⟩ : ∃ l : List Value, cs = l.toArray := ⟨cs.toList, by simp⟩
    simp only [DataW.trod, Value.cells, Try.underlying51, hc] at hf
    match l, hf with
    | [x, y, z], hf =>
      simp [hc1, hc2, hc3] at hf
      obtain ⟨p1, h1, hf⟩ := Option.bind_eq_some_iff.1 hf
      obtain ⟨q, hq, _⟩ := Option.map_eq_some_iff.1 hf
      obtain ⟨q1, hq1, _⟩ := Option.bind_eq_some_iff.1 hq
      obtain ⟨p2, h2, hq2⟩ := Option.bind_eq_some_iff.1 hq1
      obtain ⟨q2, hq3, _⟩ := Option.bind_eq_some_iff.1 hq2
      obtain ⟨p3, h3, _⟩ := Option.bind_eq_some_iff.1 hq3
      obtain ⟨n1, e1, _⟩ := DataW.trod_int Try.underlying30 h1
      obtain ⟨n2, e2, _⟩ := DataW.trod_int Try.underlying49 h2
      obtain ⟨n3, e3, _⟩ := DataW.trod_bool Try.underlying4 h3
      simp only [List.cons.injEq, and_true] at e1 e2 e3
      subst e1; subst e2; subst e3
      exact ⟨_, _, _, rfl⟩
    | [], hf => simp at hf
    | [_], hf => simp at hf
    | [_, _], hf => simp at hf
    | _ :: _ :: _ :: _ :: _, hf => simp at hf
set_option maxRecDepth 100000 in
theorem lifted (os : Os) (started : os.Started) (H : Type) (enc : TypeId × Value → H) :
    ReturnsInHanded {} Try.checked os 8 .any (Rows.greetWritesSpec.pre6 enc Try.prog Try.f8 Rows.greetWritesRow.domain false) (Rows.greetWritesSpec.post enc Try.prog Try.f8 false true false false) := by
  refine returnsInHanded_of_change_sized (C := Try.checked) own started (by kernel_rfl) Try.func8
    (ChangeSpec.witness6 (enc := enc) (C := Try.checked) false ⟨#[], #[.agg #[.int .u32 0, .int .u64 0, .bool false], .int .u32 0, .int .u32 0, .slice none 0 0, .int .i64 0, .bool false], []⟩ 8 (by kernel_rfl) (by kernel_rfl) (by kernel_rfl) (by kernel_rfl)) ?_
  intro W base args ds gs before hval0 hW hcnd hsz0 _
  have hsz : (DataW.weightsEach Try.prog (Try.f8.params.toList ++ Rows.greetWritesSpec.plain.varTypes Try.prog) (ds ++ gs)).all (· ≤ reachBytes) = true := hsz0
  have hval : ∀ (j : Nat) t v, Try.f8.params[j]? = some t → args[j]? = some v → Value.okWide Try.prog W .any base t v := hval0
  have hW' := hW
  obtain ⟨p, q, hA0, hV, rfl, hfz, hnd⟩ := hW
  have hA : DataW.TrodAll enc Try.prog W 0 (fun _ => true) true Try.f8.params.toList args.toList ds p := hA0
  rw [Try.params8] at hA hval hsz
  obtain ⟨v0, vs0, d0, ds0, p0, q0, hargs, rfl, rfl, h0, r0⟩ := trodAll_cons hA
  obtain ⟨v1, vs1, d1, ds1, p1, q1, rfl, rfl, rfl, h1, r1⟩ := trodAll_cons r0
  obtain ⟨v2, vs2, d2, ds2, p2, q2, rfl, rfl, rfl, h2, r2⟩ := trodAll_cons r1
  obtain ⟨v3, vs3, d3, ds3, p3, q3, rfl, rfl, rfl, h3, r3⟩ := trodAll_cons r2
  obtain ⟨v4, vs4, d4, ds4, p4, q4, rfl, rfl, rfl, h4, r4⟩ := trodAll_cons r3
  obtain ⟨v5, vs5, d5, ds5, p5, q5, rfl, rfl, rfl, h5, r5⟩ := trodAll_cons r4
  obtain ⟨rfl, rfl, rfl⟩ := trodAll_nil r5
  obtain rfl : args = #[v0, v1, v2, v3, v4, v5] := by cases args; simp_all
  obtain ⟨rfl, rfl⟩ := trodVars_none hV
  have k0 := h0
  have lt0 : ∀ x ∈ p0, x.block < W.heap.size := by obtain ⟨m, hm⟩ := k0; exact DataW.trod_lt m _ _ _ hm
  obtain ⟨a0, a1, a2, rfl⟩ := open_export (hval 0 51 v0 rfl rfl) h0
  obtain ⟨b, rfl, rfl, rfl, w1⟩ := open_int Try.underlying30 (hval 1 30 v1 rfl rfl) h1
  obtain ⟨c, rfl, rfl, rfl, w2⟩ := open_int Try.underlying30 (hval 2 30 v2 rfl rfl) h2
  obtain ⟨a3, len3, cap3, rfl⟩ := okWide_slice Try.underlying22 (hval 3 22 v3 rfl rfl)
  have k3 := h3
  have lt3 : ∀ x ∈ p3, x.block < W.heap.size := by obtain ⟨m, hm⟩ := k3; exact DataW.trod_lt m _ _ _ hm
  obtain ⟨z3, w3⟩ : ∃ zs, IsRow .u8 W a3 len3 cap3 zs := by
    obtain ⟨fuel, hf⟩ := h3
    rcases open_ints Try.underlying22 Try.underlying5 (by kernel_rfl) hf with ⟨hcs, _⟩ | ⟨x, l, c, zs, hcs, _, hl, hm, hz, _, hcell, hwz⟩
    · simp [Value.cells] at hcs
      obtain ⟨rfl, rfl, rfl⟩ := hcs
      exact ⟨[], .inl ⟨rfl, rfl, rfl, rfl⟩⟩
    · simp [Value.cells] at hcs
      obtain ⟨rfl, rfl, rfl⟩ := hcs
      exact ⟨zs, .inr ⟨_, rfl, hl, hm, by simpa using hz, hcell, hwz⟩⟩
  obtain ⟨a4, rfl, rfl, rfl, w4⟩ := open_int Try.underlying3 (hval 4 3 v4 rfl rfl) h4
  obtain ⟨a5, rfl, rfl, rfl⟩ := open_bool Try.underlying4 (hval 5 4 v5 rfl rfl) h5
  clear hA0 hval0 hsz0 hsz
  refine (walk a0 a1 a2 b c a3 len3 cap3 z3 a4 a5 W w3).mono fun e W' ⟨he, bel⟩ => ?_
  subst he
  exact ⟨_, rfl, _, _, _, [], _, [], hW', trodAll_mk1 (shut_bool Try.underlying4 _), (trodAll_cons_mk (Below.trod laidOut (by kernel_rfl) (of_decide_eq_true (by kernel_rfl)) k0 bel lt0) (trodAll_cons_mk (shut_int Try.underlying30 w1) (trodAll_cons_mk (shut_int Try.underlying30 w2) (trodAll_cons_mk (Below.trod laidOut (by kernel_rfl) (of_decide_eq_true (by kernel_rfl)) k3 bel lt3) (trodAll_cons_mk (shut_int Try.underlying3 w4) (trodAll_cons_mk (shut_bool Try.underlying4 a5) trodAll_mk0)))))), rfl, bel.frame _, fun h => by cases h⟩
theorem over : Rows.greetWritesRow.holds Try.pinned (OpenSpec.ofChange Rows.greetWritesSpec) :=
  OpenClaim.holds_of_wide 8 Try.f8 rfl rfl rfl rfl rfl rfl rfl ⟨rfl, rfl, rfl, rfl, rfl⟩ rfl rfl rfl rfl rfl (by kernel_rfl) Try.func8 (by kernel_rfl)
    (of_decide_eq_true (by kernel_rfl)) (by unfold Func.isWrapper; first | (rw [if_pos (by decide +kernel)]; kernel_rfl) | (rw [if_neg (by decide +kernel)]; exact ⟨rfl, rfl⟩))
    (fun os started H enc _ => lifted os started H enc)
theorem proved : Rows.GreetWritesSaid := over
#print axioms proved
end Go.Proofs.Ytkpanpekoiadoaa.greetWrites
namespace Go.Proofs.Ytkpanpekoiadoaa
/-- The row, under a short name, for the claim. -/
theorem greetWrites_holds : Rows.GreetWritesSaid := greetWrites.proved
end Go.Proofs.Ytkpanpekoiadoaa
