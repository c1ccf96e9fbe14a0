/- The law ConnServes: for every input it returns true and leaves the input as it was, where the table of numbers starts as the program's text lays it; and the tied card of it. (Printed by wip/lawcard.py.) -/
import Derived.Test.YtgljicdpcapgnaaDoorXEP6
import Derived.ShutString
namespace Go.Proofs.YtgljicdpcapgnaaDoor.connServes
open Go.ChangeShapes Go.WideShapes Go.ChangeAt Go.RowKit Go.Proofs.YtgljicdpcapgnaaDoor Go.Proofs.YtgljicdpcapgnaaDoorW.PrintWords
open Go.ChangeMaps (open_string shut_string)
set_option linter.unusedVariables false
set_option linter.unusedSimpArgs false
set_option maxRecDepth 100000 in
theorem agg_of {P : Program} {w : World} {r : Reach} {b : Nat} {t : TypeId} {v : Value} {fs : Array Field} (hu : P.underlying t = some (.struct fs)) (h : Value.okWide P w r b t v) : ∃ cs : List Value, v = .agg cs.toArray := by
  unfold Value.okWide at h
  rw [hu] at h
  obtain ⟨cs, rfl, _⟩ := h
  exact ⟨cs.toList, by simp⟩
theorem open_of {α : Type} {P : Program} {t : TypeId} {d : Kd α} {Wf : α → Prop} (ho : Opens P t d Wf) {H : Type} {enc : TypeId × Value → H} {W : World} {base : Nat} {sp : Nat → Bool} {held : Bool} {v : Value} {D : DataW H} {ps : List MemPlace} (h : DataW.Trod enc P W base sp held t v D ps) : ∃ x, d.K W x v.cells.toList ∧ Wf x := by
  obtain ⟨m, hm⟩ := h
  exact ho enc W base sp held m _ _ hm
set_option maxRecDepth 100000 in
theorem lifted (os : Os) (started : os.Started) (H : Type) (enc : TypeId × Value → H) :
    ReturnsInHanded {} Tryd.checked os 7 .any (fun w args => (Rows.connServesSpec.pre enc Tryd.prog Tryd.f7 [] false w args ∧ laidMetH Tryd.prog keysLaid w) ∧ sizedMet enc Tryd.prog Tryd.f7 (OpenSpec.ofChange Rows.connServesSpec) false w args)
      (Rows.connServesSpec.post enc Tryd.prog Tryd.f7 false true false false) := by
  refine returnsInHanded_of_change_and (C := Tryd.checked) (X := fun w _ => laidMetH Tryd.prog keysLaid w) (fun _ _ _ hh h => h.of_heap hh) own started (by kernel_rfl) Tryd.func7
    (ChangeSpec.witness_shaped (enc := enc) (C := Tryd.checked) (os := os) (X := fun w _ => laidMetH Tryd.prog keysLaid w) false (World.doorLaid Tryd.prog 400 os) #[.slice none 0 0, .agg #[.int .u32 0, .int .u32 0, .bool false, .int .u64 0], .int .u64 0, .int .u16 0, .bool false, .slice none 0 0] 8 rfl (World.shaped_of_RefB (by kernel_rfl) (by kernel_rfl)) (by kernel_rfl) (by kernel_rfl) (by kernel_rfl) (door_met os _)) ?_
  intro W base args ds gs before hval0 hW _ _ hL _
  have hval : ∀ (j : Nat) t v, Tryd.f7.params[j]? = some t → args[j]? = some v → Value.okWide Tryd.prog W .any base t v := hval0
  have hW' := hW
  obtain ⟨p, q, hA0, hV, rfl, hfz, hnd⟩ := hW
  have hA : DataW.TrodAll enc Tryd.prog W 0 (fun _ => true) true Tryd.f7.params.toList args.toList ds p := hA0
  rw [Tryd.params7] at hA hval
  obtain ⟨v0, vs0, d0, ds0, p0, q0, hargs, rfl, rfl, h0, r0⟩ := trodAll_cons hA
  obtain ⟨v1, vs1, d1, ds1, p1, q1, rfl, rfl, rfl, h1, r1⟩ := trodAll_cons r0
  obtain ⟨v2, vs2, d2, ds2, p2, q2, rfl, rfl, rfl, h2, r2⟩ := trodAll_cons r1
  obtain ⟨v3, vs3, d3, ds3, p3, q3, rfl, rfl, rfl, h3, r3⟩ := trodAll_cons r2
  obtain ⟨v4, vs4, d4, ds4, p4, q4, rfl, rfl, rfl, h4, r4⟩ := trodAll_cons r3
  obtain ⟨v5, vs5, d5, ds5, p5, q5, rfl, rfl, rfl, h5, r5⟩ := trodAll_cons r4
  obtain ⟨rfl, rfl, rfl⟩ := trodAll_nil r5
  obtain rfl : args = #[v0, v1, v2, v3, v4, v5] := by cases args; simp_all
  obtain ⟨rfl, rfl⟩ := trodVars_none hV
  have lt0 : ∀ x ∈ p0, x.block < W.heap.size := by obtain ⟨m, hm⟩ := h0; exact DataW.trod_lt m _ _ _ hm
  obtain ⟨a0, len0, cap0, rfl⟩ := okWide_slice Tryd.underlying23 (hval 0 23 v0 rfl rfl)
  obtain ⟨x0, hK0, hw0⟩ := open_of opens_bytes h0
  have lt1 : ∀ x ∈ p1, x.block < W.heap.size := by obtain ⟨m, hm⟩ := h1; exact DataW.trod_lt m _ _ _ hm
  obtain ⟨cs1, rfl⟩ := agg_of Tryd.underlying55 (hval 1 55 v1 rfl rfl)
  obtain ⟨x1, hK1, hw1⟩ := open_of Ps.opens_token h1
  simp only [Value.cells] at hK1
  obtain ⟨x2, rfl, rfl, rfl, hw2⟩ := open_int Tryd.underlying42 (hval 2 42 v2 rfl rfl) h2
  obtain ⟨x3, rfl, rfl, rfl, hw3⟩ := open_int Tryd.underlying56 (hval 3 56 v3 rfl rfl) h3
  obtain ⟨x4, rfl, rfl, rfl⟩ := open_bool Tryd.underlying4 (hval 4 4 v4 rfl rfl) h4
  have lt5 : ∀ x ∈ p5, x.block < W.heap.size := by obtain ⟨m, hm⟩ := h5; exact DataW.trod_lt m _ _ _ hm
  obtain ⟨a5, len5, cap5, rfl⟩ := okWide_slice Tryd.underlying49 (hval 5 49 v5 rfl rfl)
  obtain ⟨x5, hK5, hw5⟩ := open_of (opens_slice Tryd.underlying49 (by kernel_rfl) opens_request) h5
  clear hA0 hval0
  refine (connServes_.calls x0 _ x1 cs1 x2 x3 x4 x5 _ W (of_laid hL) hK0 hw0 hK1 hw1 hw2 hw3 hK5 hw5).mono fun e W' ⟨he, bel⟩ => ?_
  subst he
  exact ⟨_, rfl, _, _, _, [], _, [], hW', trodAll_mk1 (shut_bool Tryd.underlying4 _), (trodAll_cons_mk (Below.trod laidOut (by kernel_rfl) (of_decide_eq_true (by kernel_rfl)) h0 bel lt0) (trodAll_cons_mk (Below.trod laidOut (by kernel_rfl) (of_decide_eq_true (by kernel_rfl)) h1 bel lt1) (trodAll_cons_mk (shut_int Tryd.underlying42 hw2) (trodAll_cons_mk (shut_int Tryd.underlying56 hw3) (trodAll_cons_mk (shut_bool Tryd.underlying4 _) (trodAll_cons_mk (Below.trod laidOut (by kernel_rfl) (of_decide_eq_true (by kernel_rfl)) h5 bel lt5) trodAll_mk0)))))), rfl, bel.frame _, fun h => by cases h⟩
set_option maxRecDepth 100000 in
theorem over : Rows.connServesRow.holds Tryd.pinned (OpenSpec.ofChange Rows.connServesSpec) :=
  OpenClaim.holds_of_wide 7 Tryd.f7 rfl rfl rfl rfl rfl rfl rfl ⟨rfl, rfl, rfl, rfl, rfl⟩ rfl rfl rfl rfl rfl (by kernel_rfl) Tryd.func7 (by kernel_rfl)
    (of_decide_eq_true (by kernel_rfl)) (by unfold Func.isWrapper; first | (rw [if_pos (by decide +kernel)]; kernel_rfl) | (rw [if_neg (by decide +kernel)]; exact ⟨rfl, rfl⟩))
    (fun os started H enc _ => lifted os started H enc)
set_option maxRecDepth 100000 in
theorem card_proved : Rows.ConnServesCardSaid :=
  Claim7.holds_tied_plain_at .later [] [.data] true (true, "b94a56dd89bc716cc43660ab7e982fed9b812f0cfd4578020de085b642ba142e") false
    over (fun _ h => by cases h) (by kernel_rfl) (fun _ h => by cases h) connServes_row_tie rfl ⟨rfl, rfl⟩ (by kernel_rfl) rfl
    (fun f fn hf hfn => by
      obtain rfl : f = 7 := Option.some.inj ((show Tryd.prog.funcNamed "coaming/coaminglaw21.ConnServes" = some 7 by kernel_rfl).symm.trans hf) |>.symm
      obtain rfl : fn = Tryd.f7 := (Option.some.inj (Tryd.func7.symm.trans hfn)).symm
      exact ⟨by kernel_rfl, fun j t ht => by
        rw [Tryd.params7] at ht
        have hmem : t ∈ [23, 55, 42, 56, 4, 49] := List.mem_of_getElem? (by simpa using ht)
        simp only [List.mem_cons, List.not_mem_nil, or_false] at hmem
        rcases hmem with rfl | rfl | rfl | rfl | rfl | rfl
        all_goals first
          | exact (show Tryd.prog.wantsStandIn 49 = false by kernel_rfl)
          | exact (show Tryd.prog.wantsStandIn 23 = false by kernel_rfl)
          | exact (show Tryd.prog.wantsStandIn 55 = false by kernel_rfl)
          | exact (show Tryd.prog.wantsStandIn 4 = false by kernel_rfl)
          | exact (show Tryd.prog.wantsStandIn 56 = false by kernel_rfl)
          | exact (show Tryd.prog.wantsStandIn 42 = false by kernel_rfl)⟩)
    (by kernel_rfl)
end Go.Proofs.YtgljicdpcapgnaaDoor.connServes
namespace Go.Proofs.YtgljicdpcapgnaaDoor
/-- The tied card, under a short name, for the claim. -/
theorem connServes_holds : Rows.ConnServesCardSaid := connServes.card_proved
#print axioms connServes_holds
end Go.Proofs.YtgljicdpcapgnaaDoor
