/- The law MacPieces: for every input it returns true and leaves the input as it was, where the table of numbers starts as the program's text lays it; and the tied card of it. (Printed by wip/lawtext.py.) -/
import Derived.Test.YthcilikinfhipaaDoorMacRow
import Derived.Test.YthcilikinfhipaaDoorMacL3
import Derived.Deep.Matrix
namespace Go.Proofs.YthcilikinfhipaaDoor.macPieces
open Go.ChangeShapes Go.WideShapes Go.ChangeAt Go.RowKit
set_option linter.unusedVariables false
set_option maxRecDepth 100000 in
theorem lifted (os : Os) (started : os.Started) (H : Type) (enc : TypeId × Value → H) :
    ReturnsInHanded {} Tryd.checked os 4 .any (fun w args => (Rows.macPiecesSpec.pre enc Tryd.prog Tryd.f4 [] false w args ∧ laidMetH Tryd.prog keysLaid w) ∧ sizedMet enc Tryd.prog Tryd.f4 (OpenSpec.ofChange Rows.macPiecesSpec) false w args)
      (Rows.macPiecesSpec.post enc Tryd.prog Tryd.f4 false true false false) := by
  refine returnsInHanded_of_change_and (C := Tryd.checked) (X := fun w _ => laidMetH Tryd.prog keysLaid w) (fun _ _ _ hh h => h.of_heap hh) own started (by kernel_rfl) Tryd.func4
    (ChangeSpec.witness_shaped (enc := enc) (C := Tryd.checked) (os := os) (X := fun w _ => laidMetH Tryd.prog keysLaid w) false (World.doorLaid Tryd.prog 400 os) #[.slice none 0 0, .slice none 0 0] 8 rfl (World.shaped_of_RefB (by kernel_rfl) (by kernel_rfl)) (by kernel_rfl) (by kernel_rfl) (by kernel_rfl) (door_met os _)) ?_
  intro W base args ds gs before hval0 hW _ _ hL _
  have hval : ∀ (j : Nat) t v, Tryd.f4.params[j]? = some t → args[j]? = some v → Value.okWide Tryd.prog W .any base t v := hval0
  have hW' := hW
  obtain ⟨p, q, hA0, hV, rfl, hfz, hnd⟩ := hW
  have hA : DataW.TrodAll enc Tryd.prog W 0 (fun _ => true) true Tryd.f4.params.toList args.toList ds p := hA0
  rw [Tryd.params4] at hA hval
  obtain ⟨v0, vs0, d0, ds0, p0, q0, hargs, rfl, rfl, h0, r0⟩ := trodAll_cons hA
  obtain ⟨v1, vs1, d1, ds1, p1, q1, rfl, rfl, rfl, h1, r1⟩ := trodAll_cons r0
  obtain ⟨rfl, rfl, rfl⟩ := trodAll_nil r1
  obtain rfl : args = #[v0, v1] := by cases args; simp_all
  obtain ⟨rfl, rfl⟩ := trodVars_none hV
  obtain ⟨a0, len0, cap0, rfl⟩ := okWide_slice Tryd.underlying22 (hval 0 22 v0 rfl rfl)
  have k0 := h0
  have lt0 : ∀ x ∈ p0, x.block < W.heap.size := by obtain ⟨m, hm⟩ := k0; exact DataW.trod_lt m _ _ _ hm
  obtain ⟨z0, w0⟩ : ∃ zs, IsRow .u8 W a0 len0 cap0 zs := by
    obtain ⟨fuel, hf⟩ := h0
    rcases open_ints Tryd.underlying22 Tryd.underlying5 (by kernel_rfl) hf with ⟨hcs, _⟩ | ⟨x, l, c, zs, hcs, _, hl, hm, hz, _, hcell, hwz⟩
    · simp [Value.cells] at hcs
      obtain ⟨rfl, rfl, rfl⟩ := hcs
      exact ⟨[], .inl ⟨rfl, rfl, rfl, rfl⟩⟩
    · simp [Value.cells] at hcs
      obtain ⟨rfl, rfl, rfl⟩ := hcs
      exact ⟨zs, .inr ⟨_, rfl, hl, hm, by simpa using hz, hcell, hwz⟩⟩
  obtain ⟨l0, hl0, hb0, hc0, hd0, he0⟩ := w0.reads
  subst hl0
  obtain ⟨a1, len1, cap1, rfl⟩ := okWide_slice Tryd.underlying29 (hval 1 29 v1 rfl rfl)
  have k1 := h1
  have lt1 : ∀ x ∈ p1, x.block < W.heap.size := by obtain ⟨m, hm⟩ := k1; exact DataW.trod_lt m _ _ _ hm
  obtain ⟨ps1, As1, Cs1, hlc1, hlm1, hrows1⟩ : ∃ (ps : Nat → List Int) (As : Nat → Option Addr) (Cs : Nat → Nat), len1 ≤ cap1 ∧ len1 ≤ 9223372036854775807 ∧ ∀ i, i < len1 → ∃ ad, a1 = some ad ∧ W.cell? (ad.add i) = some (.slice (As i) (ps i).length (Cs i)) ∧ (ps i).length ≤ Cs i ∧ (ps i).length ≤ 9223372036854775807 ∧ Sh.Bytes (ps i) ∧ Go.Proofs.YthcilikinfhipaaDoorW.PrintWords.Kd.C (Go.Proofs.YthcilikinfhipaaDoorW.PrintWords.Kd.int .u8) W (As i) (ps i).length (ps i) := by
    obtain ⟨fuel, hf⟩ := h1
    rcases Deep.open_int_rows Tryd.underlying29 Tryd.underlying22 Tryd.underlying5 (by kernel_rfl) (by kernel_rfl) hf with ⟨hcs, _⟩ | ⟨x, l, c, A, L, C, Z, hcs, _, hl, hm, _, hrow⟩
    · simp [Value.cells] at hcs
      obtain ⟨rfl, rfl, rfl⟩ := hcs
      exact ⟨fun _ => [], fun _ => none, fun _ => 0, Nat.le_refl _, by omega, fun i hi => absurd hi (by omega)⟩
    · simp [Value.cells] at hcs
      obtain ⟨rfl, rfl, rfl⟩ := hcs
      have hmx : maxLen ≤ 9223372036854775807 := by decide
      have each : ∀ r, r < len1 → ∃ q : List Int, q.length = L r ∧ q.length ≤ C r ∧ q.length ≤ 9223372036854775807 ∧ Sh.Bytes q ∧ Go.Proofs.YthcilikinfhipaaDoorW.PrintWords.Kd.C (Go.Proofs.YthcilikinfhipaaDoorW.PrintWords.Kd.int .u8) W (A r) q.length q := by
        intro r hr
        obtain ⟨_, h1, h2, h3, h4, h5, h6⟩ := hrow r (by omega)
        refine IsRow.reads (cap := C r) (zs := Z r) ?_
        cases hA1 : A r with
        | none =>
          have := h5 hA1
          refine .inl ⟨rfl, by omega, this, List.eq_nil_of_length_eq_zero (by omega)⟩
        | some a' =>
          refine .inr ⟨a', rfl, h1, h2, h3, fun i hi => ?_, h4⟩
          exact (h6 a' hA1).2 i (by omega)
      refine ⟨fun r => if h : r < len1 then (each r h).choose else [], A, C, hl, by omega, fun i hi => ?_⟩
      obtain ⟨hc1, _⟩ := hrow i (by omega)
      have hs := (each i hi).choose_spec
      refine ⟨x, rfl, ?_, ?_, ?_, ?_, ?_⟩
      · simp only [dif_pos hi]; rw [hs.1]; exact hc1
      · simp only [dif_pos hi]; exact hs.2.1
      · simp only [dif_pos hi]; exact hs.2.2.1
      · simp only [dif_pos hi]; exact hs.2.2.2.1
      · simp only [dif_pos hi]; exact hs.2.2.2.2
  clear hA0 hval0
  refine (macPieces_.calls a0 cap0 l0 a1 len1 cap1 ps1 As1 Cs1 W (of_laid hL) he0 hb0 hd0 hc0 hlc1 hlm1 hrows1).mono fun e W' ⟨he, bel⟩ => ?_
  subst he
  exact ⟨_, rfl, _, _, _, [], _, [], hW', trodAll_mk1 (shut_bool Tryd.underlying4 _), (trodAll_cons_mk (Below.trod laidOut (by kernel_rfl) (of_decide_eq_true (by kernel_rfl)) k0 bel lt0) (trodAll_cons_mk (Below.trod laidOut (by kernel_rfl) (of_decide_eq_true (by kernel_rfl)) k1 bel lt1) trodAll_mk0)), rfl, bel.frame _, fun h => by cases h⟩
theorem over : Rows.macPiecesRow.holds Tryd.pinned (OpenSpec.ofChange Rows.macPiecesSpec) :=
  OpenClaim.holds_of_wide 4 Tryd.f4 rfl rfl rfl rfl rfl rfl rfl ⟨rfl, rfl, rfl, rfl, rfl⟩ rfl rfl rfl rfl rfl (by kernel_rfl) Tryd.func4 (by kernel_rfl)
    (of_decide_eq_true (by kernel_rfl)) (by unfold Func.isWrapper; first | (rw [if_pos (by decide +kernel)]; kernel_rfl) | (rw [if_neg (by decide +kernel)]; exact ⟨rfl, rfl⟩))
    (fun os started H enc _ => lifted os started H enc)
theorem card_proved : Rows.MacPiecesCardSaid :=
  Claim7.holds_tied_plain_at .later [] [.data] true (true, "ec37803ce0c76b2e91dc930df1b1b4d433909658e8f2fe1d19451ce5ea3400a0") false
    over (fun _ h => by cases h) (by kernel_rfl) (fun _ h => by cases h) macPieces_row_tie rfl ⟨rfl, rfl⟩ (by kernel_rfl) rfl
    (fun f fn hf hfn => by
      obtain rfl : f = 4 := Option.some.inj ((show Tryd.prog.funcNamed "coaming/coaminglaw03.MacPieces" = some 4 by kernel_rfl).symm.trans hf) |>.symm
      obtain rfl : fn = Tryd.f4 := (Option.some.inj (Tryd.func4.symm.trans hfn)).symm
      exact ⟨by kernel_rfl, fun j t ht => by
        rw [Tryd.params4] at ht
        have hmem : t ∈ [22, 29] := List.mem_of_getElem? (by simpa using ht)
        simp only [List.mem_cons, List.not_mem_nil, or_false] at hmem
        rcases hmem with rfl | rfl
        all_goals first
          | exact (show Tryd.prog.wantsStandIn 29 = false by kernel_rfl)
          | exact (show Tryd.prog.wantsStandIn 22 = false by kernel_rfl)⟩)
    (by kernel_rfl)
end Go.Proofs.YthcilikinfhipaaDoor.macPieces
namespace Go.Proofs.YthcilikinfhipaaDoor
/-- The tied card, under a short name, for the claim. -/
theorem macPieces_holds : Rows.MacPiecesCardSaid := macPieces.card_proved
#print axioms macPieces_holds
end Go.Proofs.YthcilikinfhipaaDoor
