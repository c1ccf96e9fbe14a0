/- What the law's proof stands on, part 5: PBasex6, PBasex7, SpellFns, SpellFnsB, SpellFnsC, ShaMath, ShaN, ShaMix, ShaWr (laid together by wip/pack.py). -/
import Derived.Test.YtabdnlecpndfjaaDoorXPassChecksP4
import Derived.Laws.CopyOwn
namespace Go.Proofs.YtabdnlecpndfjaaDoor.PBase
open Go.RowKit Go.Proofs.YtabdnlecpndfjaaDoorW.PrintWords Go.Proofs.YtabdnlecpndfjaaDoorW.PrintLast Go.Proofs.YtabdnlecpndfjaaDoorW.PrintMore
attribute [local go_sem] max2_int min2_int max_two min_two max_three min_three max_four min_four   -- for this text's walks alone
set_option linter.unusedVariables false
set_option linter.unusedSimpArgs false
def coamingref05_body.f (k : Nat) (a0_0 : Int) (a0_1 : Int) (a0_2 : Bool) (a0_3 : Int) : Option (List Int) := (some (([1] : List Int) : List Int)).bind fun y258 => ((coamingref05_big.f k (IntKind.u64.wrap (a0_0)) 4).bind fun t261 => (if y258.length + t261.length < 140737488355328 then ((some (y258 ++ t261 : List Int)).bind fun y264 => ((coamingref05_big.f k (IntKind.u64.wrap (a0_1)) 4).bind fun t267 => (if y264.length + t267.length < 140737488355328 then ((some (y264 ++ t267 : List Int)).bind fun y270 => ((coamingref05_big.f k a0_3 8).bind fun t273 => (if y270.length + t273.length < 140737488355328 then ((some (y270 ++ t273 : List Int)).bind fun y276 => (if a0_2 = true then (if y276.length < 140737488355328 then (some (y276 ++ [1])) else (none)) else (if y276.length < 140737488355328 then (some (y276 ++ [0])) else (none)))) else (none)))) else (none)))) else (none)))
set_option maxHeartbeats 8000000 in
set_option maxRecDepth 100000 in
theorem coamingref05_body.calls (k : Nat) (a0_0 : Int) (a0_1 : Int) (a0_2 : Bool) (a0_3 : Int) (r : List Int) (w : World) (h : coamingref05_body.f k a0_0 a0_1 a0_2 a0_3 = some r) :
  Calls Tryd.prog 27 #[.agg #[.int .u32 a0_0, .int .u32 a0_1, .bool a0_2, .int .u64 a0_3]] w fun e w' => ∃ v0_ : Value, e = .returned (v0_) ∧ Kd.R (Kd.int .u8) 5 w' w.heap.size (fun _ => True) v0_ r ∧ Below w.heap.size w w' := by
 have hu26 := Tryd.underlying26
 have HB := Aside0.mk (Below.refl w.heap.size w)
 have H : ((some (([1] : List Int) : List Int)).bind fun y258 => ((coamingref05_big.f k (IntKind.u64.wrap (a0_0)) 4).bind fun t261 => (if y258.length + t261.length < 140737488355328 then ((some (y258 ++ t261 : List Int)).bind fun y264 => ((coamingref05_big.f k (IntKind.u64.wrap (a0_1)) 4).bind fun t267 => (if y264.length + t267.length < 140737488355328 then ((some (y264 ++ t267 : List Int)).bind fun y270 => ((coamingref05_big.f k a0_3 8).bind fun t273 => (if y270.length + t273.length < 140737488355328 then ((some (y270 ++ t273 : List Int)).bind fun y276 => (if a0_2 = true then (if y276.length < 140737488355328 then (some (y276 ++ [1])) else (none)) else (if y276.length < 140737488355328 then (some (y276 ++ [0])) else (none)))) else (none)))) else (none)))) else (none)))) = some r := h
 clear h
 obtain ⟨y258, hy258⟩ : ∃ y_ : List Int, y_ = (([1] : List Int)) := ⟨_, rfl⟩
 replace H : ((coamingref05_big.f k (IntKind.u64.wrap (a0_0)) 4).bind fun t261 => (if y258.length + t261.length < 140737488355328 then ((some (y258 ++ t261 : List Int)).bind fun y264 => ((coamingref05_big.f k (IntKind.u64.wrap (a0_1)) 4).bind fun t267 => (if y264.length + t267.length < 140737488355328 then ((some (y264 ++ t267 : List Int)).bind fun y270 => ((coamingref05_big.f k a0_3 8).bind fun t273 => (if y270.length + t273.length < 140737488355328 then ((some (y270 ++ t273 : List Int)).bind fun y276 => (if a0_2 = true then (if y276.length < 140737488355328 then (some (y276 ++ [1])) else (none)) else (if y276.length < 140737488355328 then (some (y276 ++ [0])) else (none)))) else (none)))) else (none)))) else (none))) = some r := by first | (rw [hy258]; with_reducible exact H) | (have H2_ := (Option.bind_some _ _).symm.trans H; rw [hy258]; with_reducible exact H2_) | (have H2_ := (Option.bind_some _ _).symm.trans H; with_reducible exact H2_) | with_reducible exact H | (rw [hy258]; exact H) | exact H
 have Ny258 := Aside0.mk hy258
 clear hy258
 replace H := Option.bind_eq_some_iff.mp H
 obtain ⟨t261, A20, H⟩ := H
 replace H : (if y258.length + t261.length < 140737488355328 then ((some (y258 ++ t261 : List Int)).bind fun y264 => ((coamingref05_big.f k (IntKind.u64.wrap (a0_1)) 4).bind fun t267 => (if y264.length + t267.length < 140737488355328 then ((some (y264 ++ t267 : List Int)).bind fun y270 => ((coamingref05_big.f k a0_3 8).bind fun t273 => (if y270.length + t273.length < 140737488355328 then ((some (y270 ++ t273 : List Int)).bind fun y276 => (if a0_2 = true then (if y276.length < 140737488355328 then (some (y276 ++ [1])) else (none)) else (if y276.length < 140737488355328 then (some (y276 ++ [0])) else (none)))) else (none)))) else (none)))) else (none)) = some r := H
 have A2 := Aside0.mk A20
 clear A20
 by_cases c3 : y258.length + t261.length < 140737488355328
 ·rw [if_pos c3] at H
  have LMc3 := Aside0.mk c3
  clear c3
  obtain ⟨y264, hy264⟩ : ∃ y_ : List Int, y_ = (y258 ++ t261) := ⟨_, rfl⟩
  replace H : ((coamingref05_big.f k (IntKind.u64.wrap (a0_1)) 4).bind fun t267 => (if y264.length + t267.length < 140737488355328 then ((some (y264 ++ t267 : List Int)).bind fun y270 => ((coamingref05_big.f k a0_3 8).bind fun t273 => (if y270.length + t273.length < 140737488355328 then ((some (y270 ++ t273 : List Int)).bind fun y276 => (if a0_2 = true then (if y276.length < 140737488355328 then (some (y276 ++ [1])) else (none)) else (if y276.length < 140737488355328 then (some (y276 ++ [0])) else (none)))) else (none)))) else (none))) = some r := by first | (rw [hy264]; with_reducible exact H) | (have H2_ := (Option.bind_some _ _).symm.trans H; rw [hy264]; with_reducible exact H2_) | (have H2_ := (Option.bind_some _ _).symm.trans H; with_reducible exact H2_) | with_reducible exact H | (rw [hy264]; exact H) | exact H
  have Ny264 := Aside0.mk hy264
  clear hy264
  replace H := Option.bind_eq_some_iff.mp H
  obtain ⟨t267, A40, H⟩ := H
  replace H : (if y264.length + t267.length < 140737488355328 then ((some (y264 ++ t267 : List Int)).bind fun y270 => ((coamingref05_big.f k a0_3 8).bind fun t273 => (if y270.length + t273.length < 140737488355328 then ((some (y270 ++ t273 : List Int)).bind fun y276 => (if a0_2 = true then (if y276.length < 140737488355328 then (some (y276 ++ [1])) else (none)) else (if y276.length < 140737488355328 then (some (y276 ++ [0])) else (none)))) else (none)))) else (none)) = some r := H
  have A4 := Aside0.mk A40
  clear A40
  by_cases c5 : y264.length + t267.length < 140737488355328
  ·rw [if_pos c5] at H
   have LMc5 := Aside0.mk c5
   clear c5
   obtain ⟨y270, hy270⟩ : ∃ y_ : List Int, y_ = (y264 ++ t267) := ⟨_, rfl⟩
   replace H : ((coamingref05_big.f k a0_3 8).bind fun t273 => (if y270.length + t273.length < 140737488355328 then ((some (y270 ++ t273 : List Int)).bind fun y276 => (if a0_2 = true then (if y276.length < 140737488355328 then (some (y276 ++ [1])) else (none)) else (if y276.length < 140737488355328 then (some (y276 ++ [0])) else (none)))) else (none))) = some r := by first | (rw [hy270]; with_reducible exact H) | (have H2_ := (Option.bind_some _ _).symm.trans H; rw [hy270]; with_reducible exact H2_) | (have H2_ := (Option.bind_some _ _).symm.trans H; with_reducible exact H2_) | with_reducible exact H | (rw [hy270]; exact H) | exact H
   have Ny270 := Aside0.mk hy270
   clear hy270
   replace H := Option.bind_eq_some_iff.mp H
   obtain ⟨t273, A60, H⟩ := H
   replace H : (if y270.length + t273.length < 140737488355328 then ((some (y270 ++ t273 : List Int)).bind fun y276 => (if a0_2 = true then (if y276.length < 140737488355328 then (some (y276 ++ [1])) else (none)) else (if y276.length < 140737488355328 then (some (y276 ++ [0])) else (none)))) else (none)) = some r := H
   have A6 := Aside0.mk A60
   clear A60
   by_cases c7 : y270.length + t273.length < 140737488355328
   ·rw [if_pos c7] at H
    have LMc7 := Aside0.mk c7
    clear c7
    obtain ⟨y276, hy276⟩ : ∃ y_ : List Int, y_ = (y270 ++ t273) := ⟨_, rfl⟩
    replace H : (if a0_2 = true then (if y276.length < 140737488355328 then (some (y276 ++ [1])) else (none)) else (if y276.length < 140737488355328 then (some (y276 ++ [0])) else (none))) = some r := by first | (rw [hy276]; with_reducible exact H) | (have H2_ := (Option.bind_some _ _).symm.trans H; rw [hy276]; with_reducible exact H2_) | (have H2_ := (Option.bind_some _ _).symm.trans H; with_reducible exact H2_) | with_reducible exact H | (rw [hy276]; exact H) | exact H
    have Ny276 := Aside0.mk hy276
    clear hy276
    by_cases c8 : a0_2 = true
    ·subst c8
     have H1 : (if y276.length < 140737488355328 then (some (y276 ++ [1])) else (none)) = some r := by rw [if_pos rfl] at H; exact H
     clear H
     have H := H1
     clear H1
     by_cases c9 : y276.length < 140737488355328
     ·rw [if_pos c9] at H
      have LMc9 := Aside0.mk c9
      clear c9
      obtain ⟨y279, hy279⟩ : ∃ y_ : List Int, y_ = (y276 ++ [1]) := ⟨_, rfl⟩
      replace H : (some y279) = some r := by first | (rw [hy279]; with_reducible exact H) | (have H2_ := (Option.bind_some _ _).symm.trans H; rw [hy279]; with_reducible exact H2_) | (have H2_ := (Option.bind_some _ _).symm.trans H; with_reducible exact H2_) | with_reducible exact H | (rw [hy279]; exact H) | exact H
      have Ny279 := Aside0.mk hy279
      clear hy279
      obtain rfl := Option.some.inj H
      go_enter Tryd.func27, Tryd.ntmps27
      go_wp2_with (first | ((with_reducible refine gate_dst (N := 1) rfl ?_); refine box_event ?hg (N := 1) ?hd (cs := #[.int .u32 a0_0, .int .u32 a0_1, .bool true, .int .u64 a0_3]) (t := 26) ?hr ?_; (case hd => rfl); (case hg => rfl); (case hr => first | (go_simp; done) | (go_simp; rfl) | (go_simp; simp only [IntKind.wrap_u32, Int.emod_add_emod, Int.add_emod_emod])); intro gb257 hg w10 hbox hb; have n0_ := Aside0.mk (below_step (by repeat (first | (with_reducible first | exact HB.out | apply below_alloc | apply pw_below_drewN | apply below_drew1) | exact HB.out)) hb); have n1_ := Aside0.mk (hbox); have n2_ := Aside0.mk ((by rw [hg]; exact (below_size (by repeat (first | (with_reducible first | exact HB.out | apply below_alloc | apply pw_below_drewN | apply below_drew1) | exact HB.out))) : w.heap.size ≤ gb257)); have n3_ := Aside0.mk ((by rw [hg]; exact (below_size (by repeat (first | (with_reducible first | exact HB.out | apply below_alloc | apply pw_below_drewN | apply below_drew1) | exact HB.out))) : w.heap.size ≤ gb257)); clear HB; have HB := n0_; have BK257 := n1_; have GW257 := n2_; have GE257 := n3_; clear n0_ n1_ n2_ n3_; clear hb hbox hg) | ((with_reducible refine gate_dst (N := 4) rfl ?_); refine Kd.R_lit (Kd.int .u8) _ 5 ?hg (N := 4) ?hd (xs := ([1] : List Int)) (inner := [.int .u8 1]) (ok := fun _ => True) (okp := fun _ => True) ?hr ?hp (fun _ hk => hk) trivial (Below.refl _ _) (Nat.le_refl _) (by simp) ?_; (case hd => rfl); (case hg => rfl); (case hr => first | (go_simp; done) | (go_simp; rfl) | (go_simp; simp only [IntKind.wrap_u32, Int.emod_add_emod, Int.add_emod_emod])); (case hp => exact (Reps.one (show Kd.M (Kd.int .u8) _ _ _ 1 [.int .u8 1] from rfl) (Reps.none _ _))); intro v259 w11 ho12 hb hg_ hnew_; clear hg_ hnew_; (first | rw [← Ny258.out] at ho12 | (simp only [Int.reduceToNat] at ho12; rw [← Ny258.out] at ho12)); have n0_ := Aside0.mk (Kd.R_lower ho12 (below_size (by repeat (first | (with_reducible first | exact HB.out | apply below_alloc | apply pw_below_drewN | apply below_drew1 | refine below_set ?_ GE257.out) | exact HB.out)))); have n1_ := Aside0.mk (blk_below (g := gb257) (o := .cells #[.int .u32 a0_0, .int .u32 a0_1, .bool true, .int .u64 a0_3] 26 (0, 0)) (by (with_reducible repeat (first | refine blk_drewN ?_ _ | refine blk_drew ?_ | refine blk_alloc ?_ _)); exact BK257.out) hb); have n2_ := Aside0.mk (below_step (by repeat (first | (with_reducible first | exact HB.out | apply below_alloc | apply pw_below_drewN | apply below_drew1 | refine below_set ?_ GE257.out) | exact HB.out)) hb); clear BK257; clear HB; have HO260 := n0_; have BK257 := n1_; have HB := n2_; clear n0_ n1_ n2_; clear hb ho12; have hcz13_0 : w11.cell? ⟨gb257, 0, none⟩ = some (.int .u32 a0_0) := (blk_cell BK257.out 0).trans rfl; have hcz13_1 : w11.cell? ⟨gb257, 1, none⟩ = some (.int .u32 a0_1) := (blk_cell BK257.out 1).trans rfl; have hcz13_2 : w11.cell? ⟨gb257, 2, none⟩ = some (.bool true) := (blk_cell BK257.out 2).trans rfl; have hcz13_3 : w11.cell? ⟨gb257, 3, none⟩ = some (.int .u64 a0_3) := (blk_cell BK257.out 3).trans rfl; have hfz13_0 := blk_frozen BK257.out 0; have hfz13_1 := blk_frozen BK257.out 1; have hfz13_2 := blk_frozen BK257.out 2; have hfz13_3 := blk_frozen BK257.out 3) | ((with_reducible refine gate_callee (f := 45) rfl ?_); refine goesL_ (some 9) rfl rfl Tryd.func45 (by kernel_rfl) rfl #[.int .u64 (IntKind.u64.wrap (a0_0)), .int .i64 4] rfl (by (try simp only [List.map_toArray, List.map_cons, List.map_nil]); first | done | rfl | (simp only [List.length_drop, List.length_take]; rfl) | (simp only [List.length_drop, List.length_take]; (repeat rw [Nat.min_eq_left (by simp only [eq_iff_iff, iff_true] at *; omega)]); rfl)) ?_; (with_reducible refine (coamingref05_big.calls k (IntKind.u64.wrap (a0_0)) 4 t261 _ A2.out).mono ?_); rintro e w14 ⟨v262, rfl, ho0, hb⟩; refine ⟨_, rfl, ?_⟩; have n0_ := Aside0.mk (Kd.R_elder' (by (with_reducible repeat (first | apply Kd.R_alloc | apply Kd.R_drewN | apply Kd.R_drew)); exact HO260.out) (Kd.R_base ho0) hb); have n1_ := Aside0.mk (Kd.R_lower (Kd.R_new' ho0 (Kd.R_lt (by (with_reducible repeat (first | apply Kd.R_alloc | apply Kd.R_drewN | apply Kd.R_drew)); exact HO260.out))) (below_size (by repeat (first | (with_reducible first | exact HB.out | apply below_alloc | apply pw_below_drewN | apply below_drew1 | refine below_set ?_ GE257.out) | exact HB.out)))); have n2_ := Aside0.mk (blk_below (g := gb257) (o := .cells #[.int .u32 a0_0, .int .u32 a0_1, .bool true, .int .u64 a0_3] 26 (0, 0)) (by (with_reducible repeat (first | refine blk_drewN ?_ _ | refine blk_drew ?_ | refine blk_alloc ?_ _)); exact BK257.out) hb); have n3_ := Aside0.mk (below_step (by repeat (first | (with_reducible first | exact HB.out | apply below_alloc | apply pw_below_drewN | apply below_drew1 | refine below_set ?_ GE257.out) | exact HB.out)) hb); clear HO260; clear BK257; clear HB; have HO260 := n0_; have HO263 := n1_; have BK257 := n2_; have HB := n3_; clear n0_ n1_ n2_ n3_; (try clear hb); (try clear hb2); (try clear hk); (try clear hi); (try clear ho0); obtain ⟨Ao16, co16, eo16⟩ := Kd.R_slice HO263.out; subst eo16) | ((with_reducible refine gate_builtin (b := .append) (xs := #[.tmp 5, .tmp 9]) rfl ?_); at_builtin; refine Kd.R_append_rows (Kd.int .u8) (w0 := w) w.heap.size rfl (.tmp 5) (.tmp 9) 22 5 (.int .u8 0) 1 rfl Tryd.underlying22 info5 rfl (by decide) (by omega) v259 y258 t261 _ _ _ (fun k_ => some k_ ≠ (.slice Ao16 t261.length co16 : Value).ownBlock) (fun _ => False) rfl rfl ?aO ?aR (fun _ _ h => h) (fun _ h => h.elim) ?aF ?aB ?aS ?aL ?_; (case aR => repeat (first | exact (Kd.R_reads' HO263.out).2.2 | (with_reducible refine Kd.C_alloc ?_ _) | (with_reducible refine Kd.C_drewN ?_ _) | (with_reducible refine Kd.C_drew ?_))); (case aB => exact (by repeat (first | (with_reducible first | exact HB.out | apply below_alloc | apply pw_below_drewN | apply below_drew1 | refine below_set ?_ GE257.out) | exact HB.out))); (case aF => exact (fun k_ hk => Kd.fresh' (Kd.R_lt (by (with_reducible repeat (first | apply Kd.R_alloc | apply Kd.R_drewN | apply Kd.R_drew)); exact HO263.out)) k_ hk)); (case aO => exact (by (with_reducible repeat (first | apply Kd.R_alloc | apply Kd.R_drewN | apply Kd.R_drew)); exact Kd.R_mono HO260.out (fun _ hk => hk.2))); (case aS => exact (below_size (by repeat (first | (with_reducible first | exact HB.out | apply below_alloc | apply pw_below_drewN | apply below_drew1 | refine below_set ?_ GE257.out) | exact HB.out)))); (case aL => have := LMc3.out; omega); intro v265 w15 ho hb hg hat; rw [← Ny264.out] at ho; have n0_ := Aside0.mk (blk_grown (g := gb257) (o := .cells #[.int .u32 a0_0, .int .u32 a0_1, .bool true, .int .u64 a0_3] 26 (0, 0)) (by (with_reducible repeat (first | refine blk_drewN ?_ _ | refine blk_drew ?_ | refine blk_alloc ?_ _)); exact BK257.out) hg (Kd.R_ne HO260.out BK257.out (by decide))); have n1_ := Aside0.mk (Kd.R_after (ok := (fun _ => True)) (by (with_reducible repeat (first | apply Kd.R_alloc | apply Kd.R_drewN | apply Kd.R_drew)); exact HO263.out) hg hat); have n2_ := Aside0.mk (hb); have n3_ := Aside0.mk (ho); clear BK257; clear HO263; clear HB; clear HO260; have BK257 := n0_; have HO263 := n1_; have HB := n2_; have HO266 := n3_; clear n0_ n1_ n2_ n3_; clear ho hb hg hat; have hcz17_0 : w15.cell? ⟨gb257, 0, none⟩ = some (.int .u32 a0_0) := (blk_cell BK257.out 0).trans rfl; have hcz17_1 : w15.cell? ⟨gb257, 1, none⟩ = some (.int .u32 a0_1) := (blk_cell BK257.out 1).trans rfl; have hcz17_2 : w15.cell? ⟨gb257, 2, none⟩ = some (.bool true) := (blk_cell BK257.out 2).trans rfl; have hcz17_3 : w15.cell? ⟨gb257, 3, none⟩ = some (.int .u64 a0_3) := (blk_cell BK257.out 3).trans rfl; have hfz17_0 := blk_frozen BK257.out 0; have hfz17_1 := blk_frozen BK257.out 1; have hfz17_2 := blk_frozen BK257.out 2; have hfz17_3 := blk_frozen BK257.out 3) | ((with_reducible refine gate_callee (f := 45) rfl ?_); refine goesL_ (some 15) rfl rfl Tryd.func45 (by kernel_rfl) rfl #[.int .u64 (IntKind.u64.wrap (a0_1)), .int .i64 4] rfl (by (try simp only [List.map_toArray, List.map_cons, List.map_nil]); first | done | rfl | (simp only [List.length_drop, List.length_take]; rfl) | (simp only [List.length_drop, List.length_take]; (repeat rw [Nat.min_eq_left (by simp only [eq_iff_iff, iff_true] at *; omega)]); rfl)) ?_; (with_reducible refine (coamingref05_big.calls k (IntKind.u64.wrap (a0_1)) 4 t267 _ A4.out).mono ?_); rintro e w18 ⟨v268, rfl, ho0, hb⟩; refine ⟨_, rfl, ?_⟩; have n0_ := Aside0.mk (Kd.R_elder' (by (with_reducible repeat (first | apply Kd.R_alloc | apply Kd.R_drewN | apply Kd.R_drew)); exact HO263.out) (Kd.R_base ho0) hb); have n1_ := Aside0.mk (Kd.R_elder' (by (with_reducible repeat (first | apply Kd.R_alloc | apply Kd.R_drewN | apply Kd.R_drew)); exact HO266.out) (Kd.R_base ho0) hb); have n2_ := Aside0.mk (Kd.R_lower (Kd.R_new' (Kd.R_new' ho0 (Kd.R_lt (by (with_reducible repeat (first | apply Kd.R_alloc | apply Kd.R_drewN | apply Kd.R_drew)); exact HO263.out))) (Kd.R_lt (by (with_reducible repeat (first | apply Kd.R_alloc | apply Kd.R_drewN | apply Kd.R_drew)); exact HO266.out))) (below_size (by repeat (first | (with_reducible first | exact HB.out | apply below_alloc | apply pw_below_drewN | apply below_drew1 | refine below_set ?_ GE257.out) | exact HB.out)))); have n3_ := Aside0.mk (blk_below (g := gb257) (o := .cells #[.int .u32 a0_0, .int .u32 a0_1, .bool true, .int .u64 a0_3] 26 (0, 0)) (by (with_reducible repeat (first | refine blk_drewN ?_ _ | refine blk_drew ?_ | refine blk_alloc ?_ _)); exact BK257.out) hb); have n4_ := Aside0.mk (below_step (by repeat (first | (with_reducible first | exact HB.out | apply below_alloc | apply pw_below_drewN | apply below_drew1 | refine below_set ?_ GE257.out) | exact HB.out)) hb); clear HO263; clear HO266; clear BK257; clear HB; have HO263 := n0_; have HO266 := n1_; have HO269 := n2_; have BK257 := n3_; have HB := n4_; clear n0_ n1_ n2_ n3_ n4_; (try clear hb); (try clear hb2); (try clear hk); (try clear hi); (try clear ho0); obtain ⟨Ao20, co20, eo20⟩ := Kd.R_slice HO269.out; subst eo20) | ((with_reducible refine gate_builtin (b := .append) (xs := #[.tmp 11, .tmp 15]) rfl ?_); at_builtin; refine Kd.R_append_rows (Kd.int .u8) (w0 := w) w.heap.size rfl (.tmp 11) (.tmp 15) 22 5 (.int .u8 0) 1 rfl Tryd.underlying22 info5 rfl (by decide) (by omega) v265 y264 t267 _ _ _ (fun k_ => some k_ ≠ (.slice Ao16 t261.length co16 : Value).ownBlock ∧ some k_ ≠ (.slice Ao20 t267.length co20 : Value).ownBlock) (fun _ => False) rfl rfl ?aO ?aR (fun _ _ h => h) (fun _ h => h.elim) ?aF ?aB ?aS ?aL ?_; (case aR => repeat (first | exact (Kd.R_reads' HO269.out).2.2 | (with_reducible refine Kd.C_alloc ?_ _) | (with_reducible refine Kd.C_drewN ?_ _) | (with_reducible refine Kd.C_drew ?_))); (case aB => exact (by repeat (first | (with_reducible first | exact HB.out | apply below_alloc | apply pw_below_drewN | apply below_drew1 | refine below_set ?_ GE257.out) | exact HB.out))); (case aF => exact (fun k_ hk => ⟨Kd.fresh' (Kd.R_lt (by (with_reducible repeat (first | apply Kd.R_alloc | apply Kd.R_drewN | apply Kd.R_drew)); exact HO263.out)) k_ hk, Kd.fresh' (Kd.R_lt (by (with_reducible repeat (first | apply Kd.R_alloc | apply Kd.R_drewN | apply Kd.R_drew)); exact HO269.out)) k_ hk⟩)); (case aO => exact (by (with_reducible repeat (first | apply Kd.R_alloc | apply Kd.R_drewN | apply Kd.R_drew)); exact HO266.out)); (case aS => exact (below_size (by repeat (first | (with_reducible first | exact HB.out | apply below_alloc | apply pw_below_drewN | apply below_drew1 | refine below_set ?_ GE257.out) | exact HB.out)))); (case aL => have := LMc5.out; omega); intro v271 w19 ho hb hg hat; rw [← Ny270.out] at ho; have n0_ := Aside0.mk (blk_grown (g := gb257) (o := .cells #[.int .u32 a0_0, .int .u32 a0_1, .bool true, .int .u64 a0_3] 26 (0, 0)) (by (with_reducible repeat (first | refine blk_drewN ?_ _ | refine blk_drew ?_ | refine blk_alloc ?_ _)); exact BK257.out) hg (Kd.R_ne HO266.out BK257.out (by decide))); have n1_ := Aside0.mk (Kd.R_after (ok := (fun k_ => some k_ ≠ (.slice Ao20 t267.length co20 : Value).ownBlock)) (by (with_reducible repeat (first | apply Kd.R_alloc | apply Kd.R_drewN | apply Kd.R_drew)); exact Kd.R_mono HO263.out (fun _ hk => ⟨hk.2, hk.1.2⟩)) hg hat); have n2_ := Aside0.mk (Kd.R_after (ok := (fun k_ => some k_ ≠ (.slice Ao16 t261.length co16 : Value).ownBlock)) (by (with_reducible repeat (first | apply Kd.R_alloc | apply Kd.R_drewN | apply Kd.R_drew)); exact Kd.R_mono HO269.out (fun _ hk => ⟨hk.1.2, hk.2⟩)) hg hat); have n3_ := Aside0.mk (hb); have n4_ := Aside0.mk (ho); clear BK257; clear HO263; clear HO269; clear HB; clear HO266; have BK257 := n0_; have HO263 := n1_; have HO269 := n2_; have HB := n3_; have HO272 := n4_; clear n0_ n1_ n2_ n3_ n4_; clear ho hb hg hat; have hcz21_0 : w19.cell? ⟨gb257, 0, none⟩ = some (.int .u32 a0_0) := (blk_cell BK257.out 0).trans rfl; have hcz21_1 : w19.cell? ⟨gb257, 1, none⟩ = some (.int .u32 a0_1) := (blk_cell BK257.out 1).trans rfl; have hcz21_2 : w19.cell? ⟨gb257, 2, none⟩ = some (.bool true) := (blk_cell BK257.out 2).trans rfl; have hcz21_3 : w19.cell? ⟨gb257, 3, none⟩ = some (.int .u64 a0_3) := (blk_cell BK257.out 3).trans rfl; have hfz21_0 := blk_frozen BK257.out 0; have hfz21_1 := blk_frozen BK257.out 1; have hfz21_2 := blk_frozen BK257.out 2; have hfz21_3 := blk_frozen BK257.out 3) | ((with_reducible refine gate_callee (f := 45) rfl ?_); refine goesL_ (some 20) rfl rfl Tryd.func45 (by kernel_rfl) rfl #[.int .u64 a0_3, .int .i64 8] rfl (by (try simp only [List.map_toArray, List.map_cons, List.map_nil]); first | done | rfl | (simp only [List.length_drop, List.length_take]; rfl) | (simp only [List.length_drop, List.length_take]; (repeat rw [Nat.min_eq_left (by simp only [eq_iff_iff, iff_true] at *; omega)]); rfl)) ?_; (with_reducible refine (coamingref05_big.calls k a0_3 8 t273 _ A6.out).mono ?_); rintro e w22 ⟨v274, rfl, ho0, hb⟩; refine ⟨_, rfl, ?_⟩; have n0_ := Aside0.mk (Kd.R_elder' (by (with_reducible repeat (first | apply Kd.R_alloc | apply Kd.R_drewN | apply Kd.R_drew)); exact HO263.out) (Kd.R_base ho0) hb); have n1_ := Aside0.mk (Kd.R_elder' (by (with_reducible repeat (first | apply Kd.R_alloc | apply Kd.R_drewN | apply Kd.R_drew)); exact HO269.out) (Kd.R_base ho0) hb); have n2_ := Aside0.mk (Kd.R_elder' (by (with_reducible repeat (first | apply Kd.R_alloc | apply Kd.R_drewN | apply Kd.R_drew)); exact HO272.out) (Kd.R_base ho0) hb); have n3_ := Aside0.mk (Kd.R_lower (Kd.R_new' (Kd.R_new' (Kd.R_new' ho0 (Kd.R_lt (by (with_reducible repeat (first | apply Kd.R_alloc | apply Kd.R_drewN | apply Kd.R_drew)); exact HO263.out))) (Kd.R_lt (by (with_reducible repeat (first | apply Kd.R_alloc | apply Kd.R_drewN | apply Kd.R_drew)); exact HO269.out))) (Kd.R_lt (by (with_reducible repeat (first | apply Kd.R_alloc | apply Kd.R_drewN | apply Kd.R_drew)); exact HO272.out))) (below_size (by repeat (first | (with_reducible first | exact HB.out | apply below_alloc | apply pw_below_drewN | apply below_drew1 | refine below_set ?_ GE257.out) | exact HB.out)))); have n4_ := Aside0.mk (blk_below (g := gb257) (o := .cells #[.int .u32 a0_0, .int .u32 a0_1, .bool true, .int .u64 a0_3] 26 (0, 0)) (by (with_reducible repeat (first | refine blk_drewN ?_ _ | refine blk_drew ?_ | refine blk_alloc ?_ _)); exact BK257.out) hb); have n5_ := Aside0.mk (below_step (by repeat (first | (with_reducible first | exact HB.out | apply below_alloc | apply pw_below_drewN | apply below_drew1 | refine below_set ?_ GE257.out) | exact HB.out)) hb); clear HO263; clear HO269; clear HO272; clear BK257; clear HB; have HO263 := n0_; have HO269 := n1_; have HO272 := n2_; have HO275 := n3_; have BK257 := n4_; have HB := n5_; clear n0_ n1_ n2_ n3_ n4_ n5_; (try clear hb); (try clear hb2); (try clear hk); (try clear hi); (try clear ho0); obtain ⟨Ao24, co24, eo24⟩ := Kd.R_slice HO275.out; subst eo24) | ((with_reducible refine gate_builtin (b := .append) (xs := #[.tmp 17, .tmp 20]) rfl ?_); at_builtin; refine Kd.R_append_rows (Kd.int .u8) (w0 := w) w.heap.size rfl (.tmp 17) (.tmp 20) 22 5 (.int .u8 0) 1 rfl Tryd.underlying22 info5 rfl (by decide) (by omega) v271 y270 t273 _ _ _ (fun k_ => some k_ ≠ (.slice Ao16 t261.length co16 : Value).ownBlock ∧ some k_ ≠ (.slice Ao20 t267.length co20 : Value).ownBlock ∧ some k_ ≠ (.slice Ao24 t273.length co24 : Value).ownBlock) (fun _ => False) rfl rfl ?aO ?aR (fun _ _ h => h) (fun _ h => h.elim) ?aF ?aB ?aS ?aL ?_; (case aR => repeat (first | exact (Kd.R_reads' HO275.out).2.2 | (with_reducible refine Kd.C_alloc ?_ _) | (with_reducible refine Kd.C_drewN ?_ _) | (with_reducible refine Kd.C_drew ?_))); (case aB => exact (by repeat (first | (with_reducible first | exact HB.out | apply below_alloc | apply pw_below_drewN | apply below_drew1 | refine below_set ?_ GE257.out) | exact HB.out))); (case aF => exact (fun k_ hk => ⟨Kd.fresh' (Kd.R_lt (by (with_reducible repeat (first | apply Kd.R_alloc | apply Kd.R_drewN | apply Kd.R_drew)); exact HO263.out)) k_ hk, Kd.fresh' (Kd.R_lt (by (with_reducible repeat (first | apply Kd.R_alloc | apply Kd.R_drewN | apply Kd.R_drew)); exact HO269.out)) k_ hk, Kd.fresh' (Kd.R_lt (by (with_reducible repeat (first | apply Kd.R_alloc | apply Kd.R_drewN | apply Kd.R_drew)); exact HO275.out)) k_ hk⟩)); (case aO => exact (by (with_reducible repeat (first | apply Kd.R_alloc | apply Kd.R_drewN | apply Kd.R_drew)); exact Kd.R_mono HO272.out (fun _ hk => ⟨hk.1.1, ⟨hk.1.2, hk.2⟩⟩))); (case aS => exact (below_size (by repeat (first | (with_reducible first | exact HB.out | apply below_alloc | apply pw_below_drewN | apply below_drew1 | refine below_set ?_ GE257.out) | exact HB.out)))); (case aL => have := LMc7.out; omega); intro v277 w23 ho hb hg hat; rw [← Ny276.out] at ho; have n0_ := Aside0.mk (blk_grown (g := gb257) (o := .cells #[.int .u32 a0_0, .int .u32 a0_1, .bool true, .int .u64 a0_3] 26 (0, 0)) (by (with_reducible repeat (first | refine blk_drewN ?_ _ | refine blk_drew ?_ | refine blk_alloc ?_ _)); exact BK257.out) hg (Kd.R_ne HO272.out BK257.out (by decide))); have n1_ := Aside0.mk (Kd.R_after (ok := (fun k_ => some k_ ≠ (.slice Ao20 t267.length co20 : Value).ownBlock ∧ some k_ ≠ (.slice Ao24 t273.length co24 : Value).ownBlock)) (by (with_reducible repeat (first | apply Kd.R_alloc | apply Kd.R_drewN | apply Kd.R_drew)); exact Kd.R_mono HO263.out (fun _ hk => ⟨⟨hk.1.1, hk.2⟩, hk.1.2⟩)) hg hat); have n2_ := Aside0.mk (Kd.R_after (ok := (fun k_ => some k_ ≠ (.slice Ao16 t261.length co16 : Value).ownBlock ∧ some k_ ≠ (.slice Ao24 t273.length co24 : Value).ownBlock)) (by (with_reducible repeat (first | apply Kd.R_alloc | apply Kd.R_drewN | apply Kd.R_drew)); exact Kd.R_mono HO269.out (fun _ hk => ⟨⟨hk.1.1, hk.2⟩, hk.1.2⟩)) hg hat); have n3_ := Aside0.mk (Kd.R_after (ok := (fun k_ => some k_ ≠ (.slice Ao16 t261.length co16 : Value).ownBlock ∧ some k_ ≠ (.slice Ao20 t267.length co20 : Value).ownBlock)) (by (with_reducible repeat (first | apply Kd.R_alloc | apply Kd.R_drewN | apply Kd.R_drew)); exact Kd.R_mono HO275.out (fun _ hk => ⟨⟨hk.1.1.2, hk.1.2⟩, hk.2⟩)) hg hat); have n4_ := Aside0.mk (hb); have n5_ := Aside0.mk (ho); clear BK257; clear HO263; clear HO269; clear HO275; clear HB; clear HO272; have BK257 := n0_; have HO263 := n1_; have HO269 := n2_; have HO275 := n3_; have HB := n4_; have HO278 := n5_; clear n0_ n1_ n2_ n3_ n4_ n5_; clear ho hb hg hat; have hcz25_0 : w23.cell? ⟨gb257, 0, none⟩ = some (.int .u32 a0_0) := (blk_cell BK257.out 0).trans rfl; have hcz25_1 : w23.cell? ⟨gb257, 1, none⟩ = some (.int .u32 a0_1) := (blk_cell BK257.out 1).trans rfl; have hcz25_2 : w23.cell? ⟨gb257, 2, none⟩ = some (.bool true) := (blk_cell BK257.out 2).trans rfl; have hcz25_3 : w23.cell? ⟨gb257, 3, none⟩ = some (.int .u64 a0_3) := (blk_cell BK257.out 3).trans rfl; have hfz25_0 := blk_frozen BK257.out 0; have hfz25_1 := blk_frozen BK257.out 1; have hfz25_2 := blk_frozen BK257.out 2; have hfz25_3 := blk_frozen BK257.out 3) | ((with_reducible refine gate_builtin (b := .append) (xs := #[.tmp 24, .tmp 25]) rfl ?_); at_builtin; refine Kd.R_append (Kd.int .u8) (w0 := w) w.heap.size rfl (.tmp 24) (.tmp 25) 22 5 (.int .u8 0) 1 rfl Tryd.underlying22 info5 rfl (by decide) (by omega) v277 y276 1 [.int .u8 1] (fun k_ => some k_ ≠ (.slice Ao16 t261.length co16 : Value).ownBlock ∧ some k_ ≠ (.slice Ao20 t267.length co20 : Value).ownBlock ∧ some k_ ≠ (.slice Ao24 t273.length co24 : Value).ownBlock) (fun _ => False) rfl rfl ?aP (fun _ hk => hk.elim) ?aF ?aO ?aB ?aS ?aL ?_; (case aP => exact rfl); (case aB => exact (by repeat (first | (with_reducible first | exact HB.out | apply below_alloc | apply pw_below_drewN | apply below_drew1 | refine below_set ?_ GE257.out) | exact HB.out))); (case aF => exact (fun k_ hk => ⟨Kd.fresh' (Kd.R_lt (by (with_reducible repeat (first | apply Kd.R_alloc | apply Kd.R_drewN | apply Kd.R_drew)); exact HO263.out)) k_ hk, Kd.fresh' (Kd.R_lt (by (with_reducible repeat (first | apply Kd.R_alloc | apply Kd.R_drewN | apply Kd.R_drew)); exact HO269.out)) k_ hk, Kd.fresh' (Kd.R_lt (by (with_reducible repeat (first | apply Kd.R_alloc | apply Kd.R_drewN | apply Kd.R_drew)); exact HO275.out)) k_ hk⟩)); (case aO => exact (by (with_reducible repeat (first | apply Kd.R_alloc | apply Kd.R_drewN | apply Kd.R_drew)); exact HO278.out)); (case aS => exact (below_size (by repeat (first | (with_reducible first | exact HB.out | apply below_alloc | apply pw_below_drewN | apply below_drew1 | refine below_set ?_ GE257.out) | exact HB.out)))); (case aL => have := LMc9.out; omega); intro v280 w26 ho hb hg hat; rw [← Ny279.out] at ho; have n0_ := Aside0.mk (blk_grown (g := gb257) (o := .cells #[.int .u32 a0_0, .int .u32 a0_1, .bool true, .int .u64 a0_3] 26 (0, 0)) (by (with_reducible repeat (first | refine blk_drewN ?_ _ | refine blk_drew ?_ | refine blk_alloc ?_ _)); exact BK257.out) hg (Kd.R_ne HO278.out BK257.out (by decide))); have n1_ := Aside0.mk (Kd.R_after (ok := (fun k_ => some k_ ≠ (.slice Ao20 t267.length co20 : Value).ownBlock ∧ some k_ ≠ (.slice Ao24 t273.length co24 : Value).ownBlock)) (by (with_reducible repeat (first | apply Kd.R_alloc | apply Kd.R_drewN | apply Kd.R_drew)); exact HO263.out) hg hat); have n2_ := Aside0.mk (Kd.R_after (ok := (fun k_ => some k_ ≠ (.slice Ao16 t261.length co16 : Value).ownBlock ∧ some k_ ≠ (.slice Ao24 t273.length co24 : Value).ownBlock)) (by (with_reducible repeat (first | apply Kd.R_alloc | apply Kd.R_drewN | apply Kd.R_drew)); exact HO269.out) hg hat); have n3_ := Aside0.mk (Kd.R_after (ok := (fun k_ => some k_ ≠ (.slice Ao16 t261.length co16 : Value).ownBlock ∧ some k_ ≠ (.slice Ao20 t267.length co20 : Value).ownBlock)) (by (with_reducible repeat (first | apply Kd.R_alloc | apply Kd.R_drewN | apply Kd.R_drew)); exact HO275.out) hg hat); have n4_ := Aside0.mk (hb); have n5_ := Aside0.mk (ho); clear BK257; clear HO263; clear HO269; clear HO275; clear HB; clear HO278; have BK257 := n0_; have HO263 := n1_; have HO269 := n2_; have HO275 := n3_; have HB := n4_; have HO281 := n5_; clear n0_ n1_ n2_ n3_ n4_ n5_; clear ho hb hg hat))
      go_ret
      exact ⟨_, by first | rfl | (simp [errW_none, errW_some] <;> rfl) | (simp [*, errW_none, errW_some] <;> rfl), by (with_reducible repeat (first | apply Kd.R_alloc | apply Kd.R_drewN | apply Kd.R_drew)); exact Kd.R_mono HO281.out (fun _ hk => trivial), by repeat (first | (with_reducible first | exact HB.out | apply below_alloc | apply pw_below_drewN | apply below_drew1 | refine below_set ?_ GE257.out) | exact HB.out)⟩
     ·rw [if_neg c9] at H
      exact absurd H (by simp)
    ·replace c8 := Bool.eq_false_iff.mpr c8
     subst c8
     have H1 : (if y276.length < 140737488355328 then (some (y276 ++ [0])) else (none)) = some r := by rw [if_neg (show ¬ (false = true) by decide)] at H; exact H
     clear H
     have H := H1
     clear H1
     by_cases c27 : y276.length < 140737488355328
     ·rw [if_pos c27] at H
      have LMc27 := Aside0.mk c27
      clear c27
      obtain ⟨y282, hy282⟩ : ∃ y_ : List Int, y_ = (y276 ++ [0]) := ⟨_, rfl⟩
      replace H : (some y282) = some r := by first | (rw [hy282]; with_reducible exact H) | (have H2_ := (Option.bind_some _ _).symm.trans H; rw [hy282]; with_reducible exact H2_) | (have H2_ := (Option.bind_some _ _).symm.trans H; with_reducible exact H2_) | with_reducible exact H | (rw [hy282]; exact H) | exact H
      have Ny282 := Aside0.mk hy282
      clear hy282
      obtain rfl := Option.some.inj H
      go_enter Tryd.func27, Tryd.ntmps27
      go_wp2_with (first | ((with_reducible refine gate_dst (N := 1) rfl ?_); refine box_event ?hg (N := 1) ?hd (cs := #[.int .u32 a0_0, .int .u32 a0_1, .bool false, .int .u64 a0_3]) (t := 26) ?hr ?_; (case hd => rfl); (case hg => rfl); (case hr => first | (go_simp; done) | (go_simp; rfl) | (go_simp; simp only [IntKind.wrap_u32, Int.emod_add_emod, Int.add_emod_emod])); intro gb257 hg w28 hbox hb; have n0_ := Aside0.mk (below_step (by repeat (first | (with_reducible first | exact HB.out | apply below_alloc | apply pw_below_drewN | apply below_drew1) | exact HB.out)) hb); have n1_ := Aside0.mk (hbox); have n2_ := Aside0.mk ((by rw [hg]; exact (below_size (by repeat (first | (with_reducible first | exact HB.out | apply below_alloc | apply pw_below_drewN | apply below_drew1) | exact HB.out))) : w.heap.size ≤ gb257)); have n3_ := Aside0.mk ((by rw [hg]; exact (below_size (by repeat (first | (with_reducible first | exact HB.out | apply below_alloc | apply pw_below_drewN | apply below_drew1) | exact HB.out))) : w.heap.size ≤ gb257)); clear HB; have HB := n0_; have BK257 := n1_; have GW257 := n2_; have GE257 := n3_; clear n0_ n1_ n2_ n3_; clear hb hbox hg) | ((with_reducible refine gate_dst (N := 4) rfl ?_); refine Kd.R_lit (Kd.int .u8) _ 5 ?hg (N := 4) ?hd (xs := ([1] : List Int)) (inner := [.int .u8 1]) (ok := fun _ => True) (okp := fun _ => True) ?hr ?hp (fun _ hk => hk) trivial (Below.refl _ _) (Nat.le_refl _) (by simp) ?_; (case hd => rfl); (case hg => rfl); (case hr => first | (go_simp; done) | (go_simp; rfl) | (go_simp; simp only [IntKind.wrap_u32, Int.emod_add_emod, Int.add_emod_emod])); (case hp => exact (Reps.one (show Kd.M (Kd.int .u8) _ _ _ 1 [.int .u8 1] from rfl) (Reps.none _ _))); intro v259 w29 ho30 hb hg_ hnew_; clear hg_ hnew_; (first | rw [← Ny258.out] at ho30 | (simp only [Int.reduceToNat] at ho30; rw [← Ny258.out] at ho30)); have n0_ := Aside0.mk (Kd.R_lower ho30 (below_size (by repeat (first | (with_reducible first | exact HB.out | apply below_alloc | apply pw_below_drewN | apply below_drew1 | refine below_set ?_ GE257.out) | exact HB.out)))); have n1_ := Aside0.mk (blk_below (g := gb257) (o := .cells #[.int .u32 a0_0, .int .u32 a0_1, .bool false, .int .u64 a0_3] 26 (0, 0)) (by (with_reducible repeat (first | refine blk_drewN ?_ _ | refine blk_drew ?_ | refine blk_alloc ?_ _)); exact BK257.out) hb); have n2_ := Aside0.mk (below_step (by repeat (first | (with_reducible first | exact HB.out | apply below_alloc | apply pw_below_drewN | apply below_drew1 | refine below_set ?_ GE257.out) | exact HB.out)) hb); clear BK257; clear HB; have HO260 := n0_; have BK257 := n1_; have HB := n2_; clear n0_ n1_ n2_; clear hb ho30; have hcz31_0 : w29.cell? ⟨gb257, 0, none⟩ = some (.int .u32 a0_0) := (blk_cell BK257.out 0).trans rfl; have hcz31_1 : w29.cell? ⟨gb257, 1, none⟩ = some (.int .u32 a0_1) := (blk_cell BK257.out 1).trans rfl; have hcz31_2 : w29.cell? ⟨gb257, 2, none⟩ = some (.bool false) := (blk_cell BK257.out 2).trans rfl; have hcz31_3 : w29.cell? ⟨gb257, 3, none⟩ = some (.int .u64 a0_3) := (blk_cell BK257.out 3).trans rfl; have hfz31_0 := blk_frozen BK257.out 0; have hfz31_1 := blk_frozen BK257.out 1; have hfz31_2 := blk_frozen BK257.out 2; have hfz31_3 := blk_frozen BK257.out 3) | ((with_reducible refine gate_callee (f := 45) rfl ?_); refine goesL_ (some 9) rfl rfl Tryd.func45 (by kernel_rfl) rfl #[.int .u64 (IntKind.u64.wrap (a0_0)), .int .i64 4] rfl (by (try simp only [List.map_toArray, List.map_cons, List.map_nil]); first | done | rfl | (simp only [List.length_drop, List.length_take]; rfl) | (simp only [List.length_drop, List.length_take]; (repeat rw [Nat.min_eq_left (by simp only [eq_iff_iff, iff_true] at *; omega)]); rfl)) ?_; (with_reducible refine (coamingref05_big.calls k (IntKind.u64.wrap (a0_0)) 4 t261 _ A2.out).mono ?_); rintro e w32 ⟨v262, rfl, ho0, hb⟩; refine ⟨_, rfl, ?_⟩; have n0_ := Aside0.mk (Kd.R_elder' (by (with_reducible repeat (first | apply Kd.R_alloc | apply Kd.R_drewN | apply Kd.R_drew)); exact HO260.out) (Kd.R_base ho0) hb); have n1_ := Aside0.mk (Kd.R_lower (Kd.R_new' ho0 (Kd.R_lt (by (with_reducible repeat (first | apply Kd.R_alloc | apply Kd.R_drewN | apply Kd.R_drew)); exact HO260.out))) (below_size (by repeat (first | (with_reducible first | exact HB.out | apply below_alloc | apply pw_below_drewN | apply below_drew1 | refine below_set ?_ GE257.out) | exact HB.out)))); have n2_ := Aside0.mk (blk_below (g := gb257) (o := .cells #[.int .u32 a0_0, .int .u32 a0_1, .bool false, .int .u64 a0_3] 26 (0, 0)) (by (with_reducible repeat (first | refine blk_drewN ?_ _ | refine blk_drew ?_ | refine blk_alloc ?_ _)); exact BK257.out) hb); have n3_ := Aside0.mk (below_step (by repeat (first | (with_reducible first | exact HB.out | apply below_alloc | apply pw_below_drewN | apply below_drew1 | refine below_set ?_ GE257.out) | exact HB.out)) hb); clear HO260; clear BK257; clear HB; have HO260 := n0_; have HO263 := n1_; have BK257 := n2_; have HB := n3_; clear n0_ n1_ n2_ n3_; (try clear hb); (try clear hb2); (try clear hk); (try clear hi); (try clear ho0); obtain ⟨Ao34, co34, eo34⟩ := Kd.R_slice HO263.out; subst eo34) | ((with_reducible refine gate_builtin (b := .append) (xs := #[.tmp 5, .tmp 9]) rfl ?_); at_builtin; refine Kd.R_append_rows (Kd.int .u8) (w0 := w) w.heap.size rfl (.tmp 5) (.tmp 9) 22 5 (.int .u8 0) 1 rfl Tryd.underlying22 info5 rfl (by decide) (by omega) v259 y258 t261 _ _ _ (fun k_ => some k_ ≠ (.slice Ao34 t261.length co34 : Value).ownBlock) (fun _ => False) rfl rfl ?aO ?aR (fun _ _ h => h) (fun _ h => h.elim) ?aF ?aB ?aS ?aL ?_; (case aR => repeat (first | exact (Kd.R_reads' HO263.out).2.2 | (with_reducible refine Kd.C_alloc ?_ _) | (with_reducible refine Kd.C_drewN ?_ _) | (with_reducible refine Kd.C_drew ?_))); (case aB => exact (by repeat (first | (with_reducible first | exact HB.out | apply below_alloc | apply pw_below_drewN | apply below_drew1 | refine below_set ?_ GE257.out) | exact HB.out))); (case aF => exact (fun k_ hk => Kd.fresh' (Kd.R_lt (by (with_reducible repeat (first | apply Kd.R_alloc | apply Kd.R_drewN | apply Kd.R_drew)); exact HO263.out)) k_ hk)); (case aO => exact (by (with_reducible repeat (first | apply Kd.R_alloc | apply Kd.R_drewN | apply Kd.R_drew)); exact Kd.R_mono HO260.out (fun _ hk => hk.2))); (case aS => exact (below_size (by repeat (first | (with_reducible first | exact HB.out | apply below_alloc | apply pw_below_drewN | apply below_drew1 | refine below_set ?_ GE257.out) | exact HB.out)))); (case aL => have := LMc3.out; omega); intro v265 w33 ho hb hg hat; rw [← Ny264.out] at ho; have n0_ := Aside0.mk (blk_grown (g := gb257) (o := .cells #[.int .u32 a0_0, .int .u32 a0_1, .bool false, .int .u64 a0_3] 26 (0, 0)) (by (with_reducible repeat (first | refine blk_drewN ?_ _ | refine blk_drew ?_ | refine blk_alloc ?_ _)); exact BK257.out) hg (Kd.R_ne HO260.out BK257.out (by decide))); have n1_ := Aside0.mk (Kd.R_after (ok := (fun _ => True)) (by (with_reducible repeat (first | apply Kd.R_alloc | apply Kd.R_drewN | apply Kd.R_drew)); exact HO263.out) hg hat); have n2_ := Aside0.mk (hb); have n3_ := Aside0.mk (ho); clear BK257; clear HO263; clear HB; clear HO260; have BK257 := n0_; have HO263 := n1_; have HB := n2_; have HO266 := n3_; clear n0_ n1_ n2_ n3_; clear ho hb hg hat; have hcz35_0 : w33.cell? ⟨gb257, 0, none⟩ = some (.int .u32 a0_0) := (blk_cell BK257.out 0).trans rfl; have hcz35_1 : w33.cell? ⟨gb257, 1, none⟩ = some (.int .u32 a0_1) := (blk_cell BK257.out 1).trans rfl; have hcz35_2 : w33.cell? ⟨gb257, 2, none⟩ = some (.bool false) := (blk_cell BK257.out 2).trans rfl; have hcz35_3 : w33.cell? ⟨gb257, 3, none⟩ = some (.int .u64 a0_3) := (blk_cell BK257.out 3).trans rfl; have hfz35_0 := blk_frozen BK257.out 0; have hfz35_1 := blk_frozen BK257.out 1; have hfz35_2 := blk_frozen BK257.out 2; have hfz35_3 := blk_frozen BK257.out 3) | ((with_reducible refine gate_callee (f := 45) rfl ?_); refine goesL_ (some 15) rfl rfl Tryd.func45 (by kernel_rfl) rfl #[.int .u64 (IntKind.u64.wrap (a0_1)), .int .i64 4] rfl (by (try simp only [List.map_toArray, List.map_cons, List.map_nil]); first | done | rfl | (simp only [List.length_drop, List.length_take]; rfl) | (simp only [List.length_drop, List.length_take]; (repeat rw [Nat.min_eq_left (by simp only [eq_iff_iff, iff_true] at *; omega)]); rfl)) ?_; (with_reducible refine (coamingref05_big.calls k (IntKind.u64.wrap (a0_1)) 4 t267 _ A4.out).mono ?_); rintro e w36 ⟨v268, rfl, ho0, hb⟩; refine ⟨_, rfl, ?_⟩; have n0_ := Aside0.mk (Kd.R_elder' (by (with_reducible repeat (first | apply Kd.R_alloc | apply Kd.R_drewN | apply Kd.R_drew)); exact HO263.out) (Kd.R_base ho0) hb); have n1_ := Aside0.mk (Kd.R_elder' (by (with_reducible repeat (first | apply Kd.R_alloc | apply Kd.R_drewN | apply Kd.R_drew)); exact HO266.out) (Kd.R_base ho0) hb); have n2_ := Aside0.mk (Kd.R_lower (Kd.R_new' (Kd.R_new' ho0 (Kd.R_lt (by (with_reducible repeat (first | apply Kd.R_alloc | apply Kd.R_drewN | apply Kd.R_drew)); exact HO263.out))) (Kd.R_lt (by (with_reducible repeat (first | apply Kd.R_alloc | apply Kd.R_drewN | apply Kd.R_drew)); exact HO266.out))) (below_size (by repeat (first | (with_reducible first | exact HB.out | apply below_alloc | apply pw_below_drewN | apply below_drew1 | refine below_set ?_ GE257.out) | exact HB.out)))); have n3_ := Aside0.mk (blk_below (g := gb257) (o := .cells #[.int .u32 a0_0, .int .u32 a0_1, .bool false, .int .u64 a0_3] 26 (0, 0)) (by (with_reducible repeat (first | refine blk_drewN ?_ _ | refine blk_drew ?_ | refine blk_alloc ?_ _)); exact BK257.out) hb); have n4_ := Aside0.mk (below_step (by repeat (first | (with_reducible first | exact HB.out | apply below_alloc | apply pw_below_drewN | apply below_drew1 | refine below_set ?_ GE257.out) | exact HB.out)) hb); clear HO263; clear HO266; clear BK257; clear HB; have HO263 := n0_; have HO266 := n1_; have HO269 := n2_; have BK257 := n3_; have HB := n4_; clear n0_ n1_ n2_ n3_ n4_; (try clear hb); (try clear hb2); (try clear hk); (try clear hi); (try clear ho0); obtain ⟨Ao38, co38, eo38⟩ := Kd.R_slice HO269.out; subst eo38) | ((with_reducible refine gate_builtin (b := .append) (xs := #[.tmp 11, .tmp 15]) rfl ?_); at_builtin; refine Kd.R_append_rows (Kd.int .u8) (w0 := w) w.heap.size rfl (.tmp 11) (.tmp 15) 22 5 (.int .u8 0) 1 rfl Tryd.underlying22 info5 rfl (by decide) (by omega) v265 y264 t267 _ _ _ (fun k_ => some k_ ≠ (.slice Ao34 t261.length co34 : Value).ownBlock ∧ some k_ ≠ (.slice Ao38 t267.length co38 : Value).ownBlock) (fun _ => False) rfl rfl ?aO ?aR (fun _ _ h => h) (fun _ h => h.elim) ?aF ?aB ?aS ?aL ?_; (case aR => repeat (first | exact (Kd.R_reads' HO269.out).2.2 | (with_reducible refine Kd.C_alloc ?_ _) | (with_reducible refine Kd.C_drewN ?_ _) | (with_reducible refine Kd.C_drew ?_))); (case aB => exact (by repeat (first | (with_reducible first | exact HB.out | apply below_alloc | apply pw_below_drewN | apply below_drew1 | refine below_set ?_ GE257.out) | exact HB.out))); (case aF => exact (fun k_ hk => ⟨Kd.fresh' (Kd.R_lt (by (with_reducible repeat (first | apply Kd.R_alloc | apply Kd.R_drewN | apply Kd.R_drew)); exact HO263.out)) k_ hk, Kd.fresh' (Kd.R_lt (by (with_reducible repeat (first | apply Kd.R_alloc | apply Kd.R_drewN | apply Kd.R_drew)); exact HO269.out)) k_ hk⟩)); (case aO => exact (by (with_reducible repeat (first | apply Kd.R_alloc | apply Kd.R_drewN | apply Kd.R_drew)); exact HO266.out)); (case aS => exact (below_size (by repeat (first | (with_reducible first | exact HB.out | apply below_alloc | apply pw_below_drewN | apply below_drew1 | refine below_set ?_ GE257.out) | exact HB.out)))); (case aL => have := LMc5.out; omega); intro v271 w37 ho hb hg hat; rw [← Ny270.out] at ho; have n0_ := Aside0.mk (blk_grown (g := gb257) (o := .cells #[.int .u32 a0_0, .int .u32 a0_1, .bool false, .int .u64 a0_3] 26 (0, 0)) (by (with_reducible repeat (first | refine blk_drewN ?_ _ | refine blk_drew ?_ | refine blk_alloc ?_ _)); exact BK257.out) hg (Kd.R_ne HO266.out BK257.out (by decide))); have n1_ := Aside0.mk (Kd.R_after (ok := (fun k_ => some k_ ≠ (.slice Ao38 t267.length co38 : Value).ownBlock)) (by (with_reducible repeat (first | apply Kd.R_alloc | apply Kd.R_drewN | apply Kd.R_drew)); exact Kd.R_mono HO263.out (fun _ hk => ⟨hk.2, hk.1.2⟩)) hg hat); have n2_ := Aside0.mk (Kd.R_after (ok := (fun k_ => some k_ ≠ (.slice Ao34 t261.length co34 : Value).ownBlock)) (by (with_reducible repeat (first | apply Kd.R_alloc | apply Kd.R_drewN | apply Kd.R_drew)); exact Kd.R_mono HO269.out (fun _ hk => ⟨hk.1.2, hk.2⟩)) hg hat); have n3_ := Aside0.mk (hb); have n4_ := Aside0.mk (ho); clear BK257; clear HO263; clear HO269; clear HB; clear HO266; have BK257 := n0_; have HO263 := n1_; have HO269 := n2_; have HB := n3_; have HO272 := n4_; clear n0_ n1_ n2_ n3_ n4_; clear ho hb hg hat; have hcz39_0 : w37.cell? ⟨gb257, 0, none⟩ = some (.int .u32 a0_0) := (blk_cell BK257.out 0).trans rfl; have hcz39_1 : w37.cell? ⟨gb257, 1, none⟩ = some (.int .u32 a0_1) := (blk_cell BK257.out 1).trans rfl; have hcz39_2 : w37.cell? ⟨gb257, 2, none⟩ = some (.bool false) := (blk_cell BK257.out 2).trans rfl; have hcz39_3 : w37.cell? ⟨gb257, 3, none⟩ = some (.int .u64 a0_3) := (blk_cell BK257.out 3).trans rfl; have hfz39_0 := blk_frozen BK257.out 0; have hfz39_1 := blk_frozen BK257.out 1; have hfz39_2 := blk_frozen BK257.out 2; have hfz39_3 := blk_frozen BK257.out 3) | ((with_reducible refine gate_callee (f := 45) rfl ?_); refine goesL_ (some 20) rfl rfl Tryd.func45 (by kernel_rfl) rfl #[.int .u64 a0_3, .int .i64 8] rfl (by (try simp only [List.map_toArray, List.map_cons, List.map_nil]); first | done | rfl | (simp only [List.length_drop, List.length_take]; rfl) | (simp only [List.length_drop, List.length_take]; (repeat rw [Nat.min_eq_left (by simp only [eq_iff_iff, iff_true] at *; omega)]); rfl)) ?_; (with_reducible refine (coamingref05_big.calls k a0_3 8 t273 _ A6.out).mono ?_); rintro e w40 ⟨v274, rfl, ho0, hb⟩; refine ⟨_, rfl, ?_⟩; have n0_ := Aside0.mk (Kd.R_elder' (by (with_reducible repeat (first | apply Kd.R_alloc | apply Kd.R_drewN | apply Kd.R_drew)); exact HO263.out) (Kd.R_base ho0) hb); have n1_ := Aside0.mk (Kd.R_elder' (by (with_reducible repeat (first | apply Kd.R_alloc | apply Kd.R_drewN | apply Kd.R_drew)); exact HO269.out) (Kd.R_base ho0) hb); have n2_ := Aside0.mk (Kd.R_elder' (by (with_reducible repeat (first | apply Kd.R_alloc | apply Kd.R_drewN | apply Kd.R_drew)); exact HO272.out) (Kd.R_base ho0) hb); have n3_ := Aside0.mk (Kd.R_lower (Kd.R_new' (Kd.R_new' (Kd.R_new' ho0 (Kd.R_lt (by (with_reducible repeat (first | apply Kd.R_alloc | apply Kd.R_drewN | apply Kd.R_drew)); exact HO263.out))) (Kd.R_lt (by (with_reducible repeat (first | apply Kd.R_alloc | apply Kd.R_drewN | apply Kd.R_drew)); exact HO269.out))) (Kd.R_lt (by (with_reducible repeat (first | apply Kd.R_alloc | apply Kd.R_drewN | apply Kd.R_drew)); exact HO272.out))) (below_size (by repeat (first | (with_reducible first | exact HB.out | apply below_alloc | apply pw_below_drewN | apply below_drew1 | refine below_set ?_ GE257.out) | exact HB.out)))); have n4_ := Aside0.mk (blk_below (g := gb257) (o := .cells #[.int .u32 a0_0, .int .u32 a0_1, .bool false, .int .u64 a0_3] 26 (0, 0)) (by (with_reducible repeat (first | refine blk_drewN ?_ _ | refine blk_drew ?_ | refine blk_alloc ?_ _)); exact BK257.out) hb); have n5_ := Aside0.mk (below_step (by repeat (first | (with_reducible first | exact HB.out | apply below_alloc | apply pw_below_drewN | apply below_drew1 | refine below_set ?_ GE257.out) | exact HB.out)) hb); clear HO263; clear HO269; clear HO272; clear BK257; clear HB; have HO263 := n0_; have HO269 := n1_; have HO272 := n2_; have HO275 := n3_; have BK257 := n4_; have HB := n5_; clear n0_ n1_ n2_ n3_ n4_ n5_; (try clear hb); (try clear hb2); (try clear hk); (try clear hi); (try clear ho0); obtain ⟨Ao42, co42, eo42⟩ := Kd.R_slice HO275.out; subst eo42) | ((with_reducible refine gate_builtin (b := .append) (xs := #[.tmp 17, .tmp 20]) rfl ?_); at_builtin; refine Kd.R_append_rows (Kd.int .u8) (w0 := w) w.heap.size rfl (.tmp 17) (.tmp 20) 22 5 (.int .u8 0) 1 rfl Tryd.underlying22 info5 rfl (by decide) (by omega) v271 y270 t273 _ _ _ (fun k_ => some k_ ≠ (.slice Ao34 t261.length co34 : Value).ownBlock ∧ some k_ ≠ (.slice Ao38 t267.length co38 : Value).ownBlock ∧ some k_ ≠ (.slice Ao42 t273.length co42 : Value).ownBlock) (fun _ => False) rfl rfl ?aO ?aR (fun _ _ h => h) (fun _ h => h.elim) ?aF ?aB ?aS ?aL ?_; (case aR => repeat (first | exact (Kd.R_reads' HO275.out).2.2 | (with_reducible refine Kd.C_alloc ?_ _) | (with_reducible refine Kd.C_drewN ?_ _) | (with_reducible refine Kd.C_drew ?_))); (case aB => exact (by repeat (first | (with_reducible first | exact HB.out | apply below_alloc | apply pw_below_drewN | apply below_drew1 | refine below_set ?_ GE257.out) | exact HB.out))); (case aF => exact (fun k_ hk => ⟨Kd.fresh' (Kd.R_lt (by (with_reducible repeat (first | apply Kd.R_alloc | apply Kd.R_drewN | apply Kd.R_drew)); exact HO263.out)) k_ hk, Kd.fresh' (Kd.R_lt (by (with_reducible repeat (first | apply Kd.R_alloc | apply Kd.R_drewN | apply Kd.R_drew)); exact HO269.out)) k_ hk, Kd.fresh' (Kd.R_lt (by (with_reducible repeat (first | apply Kd.R_alloc | apply Kd.R_drewN | apply Kd.R_drew)); exact HO275.out)) k_ hk⟩)); (case aO => exact (by (with_reducible repeat (first | apply Kd.R_alloc | apply Kd.R_drewN | apply Kd.R_drew)); exact Kd.R_mono HO272.out (fun _ hk => ⟨hk.1.1, ⟨hk.1.2, hk.2⟩⟩))); (case aS => exact (below_size (by repeat (first | (with_reducible first | exact HB.out | apply below_alloc | apply pw_below_drewN | apply below_drew1 | refine below_set ?_ GE257.out) | exact HB.out)))); (case aL => have := LMc7.out; omega); intro v277 w41 ho hb hg hat; rw [← Ny276.out] at ho; have n0_ := Aside0.mk (blk_grown (g := gb257) (o := .cells #[.int .u32 a0_0, .int .u32 a0_1, .bool false, .int .u64 a0_3] 26 (0, 0)) (by (with_reducible repeat (first | refine blk_drewN ?_ _ | refine blk_drew ?_ | refine blk_alloc ?_ _)); exact BK257.out) hg (Kd.R_ne HO272.out BK257.out (by decide))); have n1_ := Aside0.mk (Kd.R_after (ok := (fun k_ => some k_ ≠ (.slice Ao38 t267.length co38 : Value).ownBlock ∧ some k_ ≠ (.slice Ao42 t273.length co42 : Value).ownBlock)) (by (with_reducible repeat (first | apply Kd.R_alloc | apply Kd.R_drewN | apply Kd.R_drew)); exact Kd.R_mono HO263.out (fun _ hk => ⟨⟨hk.1.1, hk.2⟩, hk.1.2⟩)) hg hat); have n2_ := Aside0.mk (Kd.R_after (ok := (fun k_ => some k_ ≠ (.slice Ao34 t261.length co34 : Value).ownBlock ∧ some k_ ≠ (.slice Ao42 t273.length co42 : Value).ownBlock)) (by (with_reducible repeat (first | apply Kd.R_alloc | apply Kd.R_drewN | apply Kd.R_drew)); exact Kd.R_mono HO269.out (fun _ hk => ⟨⟨hk.1.1, hk.2⟩, hk.1.2⟩)) hg hat); have n3_ := Aside0.mk (Kd.R_after (ok := (fun k_ => some k_ ≠ (.slice Ao34 t261.length co34 : Value).ownBlock ∧ some k_ ≠ (.slice Ao38 t267.length co38 : Value).ownBlock)) (by (with_reducible repeat (first | apply Kd.R_alloc | apply Kd.R_drewN | apply Kd.R_drew)); exact Kd.R_mono HO275.out (fun _ hk => ⟨⟨hk.1.1.2, hk.1.2⟩, hk.2⟩)) hg hat); have n4_ := Aside0.mk (hb); have n5_ := Aside0.mk (ho); clear BK257; clear HO263; clear HO269; clear HO275; clear HB; clear HO272; have BK257 := n0_; have HO263 := n1_; have HO269 := n2_; have HO275 := n3_; have HB := n4_; have HO278 := n5_; clear n0_ n1_ n2_ n3_ n4_ n5_; clear ho hb hg hat; have hcz43_0 : w41.cell? ⟨gb257, 0, none⟩ = some (.int .u32 a0_0) := (blk_cell BK257.out 0).trans rfl; have hcz43_1 : w41.cell? ⟨gb257, 1, none⟩ = some (.int .u32 a0_1) := (blk_cell BK257.out 1).trans rfl; have hcz43_2 : w41.cell? ⟨gb257, 2, none⟩ = some (.bool false) := (blk_cell BK257.out 2).trans rfl; have hcz43_3 : w41.cell? ⟨gb257, 3, none⟩ = some (.int .u64 a0_3) := (blk_cell BK257.out 3).trans rfl; have hfz43_0 := blk_frozen BK257.out 0; have hfz43_1 := blk_frozen BK257.out 1; have hfz43_2 := blk_frozen BK257.out 2; have hfz43_3 := blk_frozen BK257.out 3) | ((with_reducible refine gate_builtin (b := .append) (xs := #[.tmp 27, .tmp 28]) rfl ?_); at_builtin; refine Kd.R_append (Kd.int .u8) (w0 := w) w.heap.size rfl (.tmp 27) (.tmp 28) 22 5 (.int .u8 0) 1 rfl Tryd.underlying22 info5 rfl (by decide) (by omega) v277 y276 0 [.int .u8 0] (fun k_ => some k_ ≠ (.slice Ao34 t261.length co34 : Value).ownBlock ∧ some k_ ≠ (.slice Ao38 t267.length co38 : Value).ownBlock ∧ some k_ ≠ (.slice Ao42 t273.length co42 : Value).ownBlock) (fun _ => False) rfl rfl ?aP (fun _ hk => hk.elim) ?aF ?aO ?aB ?aS ?aL ?_; (case aP => exact rfl); (case aB => exact (by repeat (first | (with_reducible first | exact HB.out | apply below_alloc | apply pw_below_drewN | apply below_drew1 | refine below_set ?_ GE257.out) | exact HB.out))); (case aF => exact (fun k_ hk => ⟨Kd.fresh' (Kd.R_lt (by (with_reducible repeat (first | apply Kd.R_alloc | apply Kd.R_drewN | apply Kd.R_drew)); exact HO263.out)) k_ hk, Kd.fresh' (Kd.R_lt (by (with_reducible repeat (first | apply Kd.R_alloc | apply Kd.R_drewN | apply Kd.R_drew)); exact HO269.out)) k_ hk, Kd.fresh' (Kd.R_lt (by (with_reducible repeat (first | apply Kd.R_alloc | apply Kd.R_drewN | apply Kd.R_drew)); exact HO275.out)) k_ hk⟩)); (case aO => exact (by (with_reducible repeat (first | apply Kd.R_alloc | apply Kd.R_drewN | apply Kd.R_drew)); exact HO278.out)); (case aS => exact (below_size (by repeat (first | (with_reducible first | exact HB.out | apply below_alloc | apply pw_below_drewN | apply below_drew1 | refine below_set ?_ GE257.out) | exact HB.out)))); (case aL => have := LMc27.out; omega); intro v283 w44 ho hb hg hat; rw [← Ny282.out] at ho; have n0_ := Aside0.mk (blk_grown (g := gb257) (o := .cells #[.int .u32 a0_0, .int .u32 a0_1, .bool false, .int .u64 a0_3] 26 (0, 0)) (by (with_reducible repeat (first | refine blk_drewN ?_ _ | refine blk_drew ?_ | refine blk_alloc ?_ _)); exact BK257.out) hg (Kd.R_ne HO278.out BK257.out (by decide))); have n1_ := Aside0.mk (Kd.R_after (ok := (fun k_ => some k_ ≠ (.slice Ao38 t267.length co38 : Value).ownBlock ∧ some k_ ≠ (.slice Ao42 t273.length co42 : Value).ownBlock)) (by (with_reducible repeat (first | apply Kd.R_alloc | apply Kd.R_drewN | apply Kd.R_drew)); exact HO263.out) hg hat); have n2_ := Aside0.mk (Kd.R_after (ok := (fun k_ => some k_ ≠ (.slice Ao34 t261.length co34 : Value).ownBlock ∧ some k_ ≠ (.slice Ao42 t273.length co42 : Value).ownBlock)) (by (with_reducible repeat (first | apply Kd.R_alloc | apply Kd.R_drewN | apply Kd.R_drew)); exact HO269.out) hg hat); have n3_ := Aside0.mk (Kd.R_after (ok := (fun k_ => some k_ ≠ (.slice Ao34 t261.length co34 : Value).ownBlock ∧ some k_ ≠ (.slice Ao38 t267.length co38 : Value).ownBlock)) (by (with_reducible repeat (first | apply Kd.R_alloc | apply Kd.R_drewN | apply Kd.R_drew)); exact HO275.out) hg hat); have n4_ := Aside0.mk (hb); have n5_ := Aside0.mk (ho); clear BK257; clear HO263; clear HO269; clear HO275; clear HB; clear HO278; have BK257 := n0_; have HO263 := n1_; have HO269 := n2_; have HO275 := n3_; have HB := n4_; have HO284 := n5_; clear n0_ n1_ n2_ n3_ n4_ n5_; clear ho hb hg hat))
      go_ret
      exact ⟨_, by first | rfl | (simp [errW_none, errW_some] <;> rfl) | (simp [*, errW_none, errW_some] <;> rfl), by (with_reducible repeat (first | apply Kd.R_alloc | apply Kd.R_drewN | apply Kd.R_drew)); exact Kd.R_mono HO284.out (fun _ hk => trivial), by repeat (first | (with_reducible first | exact HB.out | apply below_alloc | apply pw_below_drewN | apply below_drew1 | refine below_set ?_ GE257.out) | exact HB.out)⟩
     ·rw [if_neg c27] at H
      exact absurd H (by simp)
   ·rw [if_neg c7] at H
    exact absurd H (by simp)
  ·rw [if_neg c5] at H
   exact absurd H (by simp)
 ·rw [if_neg c3] at H
  exact absurd H (by simp)
mutual
def coaminglaw05_sameTenant.j0 : Nat → Bool → Int → List Int → Int → Int → List Int → Int → List Int → Int → Int → List Int → Option (Bool)
 | 0, _, _, _, _, _, _, _, _, _, _, _ => none
 | k + 1, x42, x286000, x286001, x286002, x286003, x286004, x287000, x287001, x287002, x287003, x287004 => if x42 = true then (some false) else (coaminglaw05_sameTenant.l0 k 0 x286000 x286001 x286002 x286003 x286004 x287000 x287001 x287002 x287003 x287004)
def coaminglaw05_sameTenant.l0 : Nat → Int → Int → List Int → Int → Int → List Int → Int → List Int → Int → Int → List Int → Option (Bool)
 | 0, _, _, _, _, _, _, _, _, _, _, _ => none
 | k + 1, x5, x286000, x286001, x286002, x286003, x286004, x287000, x287001, x287002, x287003, x287004 => if x5 < (x286004.length : Int) then (if 0 ≤ x5 then (if x5 < (x287004.length : Int) then (if (rd x286004 x5) = (rd x287004 x5) then (coaminglaw05_sameTenant.l0 k (wrap64 (x5 + 1)) x286000 x286001 x286002 x286003 x286004 x287000 x287001 x287002 x287003 x287004) else (some false)) else (none)) else (none)) else (some true)
end
def coaminglaw05_sameTenant.f (k : Nat) (a0_0 : Int) (l0_1 : List Int) (a0_2 : Int) (a0_3 : Int) (l0_4 : List Int) (a1_0 : Int) (l1_1 : List Int) (a1_2 : Int) (a1_3 : Int) (l1_4 : List Int) : Option (Bool) := if a0_0 = a1_0 then (if a0_2 = a1_2 then (if a0_3 = a1_3 then (if (strOfNums l0_1).toList = (strOfNums l1_1).toList then (coaminglaw05_sameTenant.j0 k ((l0_4.length : Int) != (l1_4.length : Int)) a0_0 l0_1 a0_2 a0_3 l0_4 a1_0 l1_1 a1_2 a1_3 l1_4) else (coaminglaw05_sameTenant.j0 k true a0_0 l0_1 a0_2 a0_3 l0_4 a1_0 l1_1 a1_2 a1_3 l1_4)) else (coaminglaw05_sameTenant.j0 k true a0_0 l0_1 a0_2 a0_3 l0_4 a1_0 l1_1 a1_2 a1_3 l1_4)) else (coaminglaw05_sameTenant.j0 k true a0_0 l0_1 a0_2 a0_3 l0_4 a1_0 l1_1 a1_2 a1_3 l1_4)) else (coaminglaw05_sameTenant.j0 k true a0_0 l0_1 a0_2 a0_3 l0_4 a1_0 l1_1 a1_2 a1_3 l1_4)
set_option maxHeartbeats 8000000 in
set_option maxRecDepth 100000 in
theorem coaminglaw05_sameTenant.calls (k : Nat) (a0_0 : Int) (A0_1 : Option Addr) (c0_1 : Nat) (l0_1 : List Int) (a0_2 : Int) (a0_3 : Int) (A0_4 : Option Addr) (c0_4 : Nat) (l0_4 : List Int) (a1_0 : Int) (A1_1 : Option Addr) (c1_1 : Nat) (l1_1 : List Int) (a1_2 : Int) (a1_3 : Int) (A1_4 : Option Addr) (c1_4 : Nat) (l1_4 : List Int) (r : Bool) (w : World) (hr0_1 : Kd.C (Kd.int .u8) w A0_1 l0_1.length l0_1) (hc0_1 : l0_1.length ≤ c0_1) (hr0_4 : Kd.C (Kd.int .u32) w A0_4 l0_4.length l0_4) (hc0_4 : l0_4.length ≤ c0_4) (hr1_1 : Kd.C (Kd.int .u8) w A1_1 l1_1.length l1_1) (hc1_1 : l1_1.length ≤ c1_1) (hr1_4 : Kd.C (Kd.int .u32) w A1_4 l1_4.length l1_4) (hc1_4 : l1_4.length ≤ c1_4) (h : coaminglaw05_sameTenant.f k a0_0 l0_1 a0_2 a0_3 l0_4 a1_0 l1_1 a1_2 a1_3 l1_4 = some r) :
  Calls Tryd.prog 23 #[.agg #[.int .u32 a0_0, .slice A0_1 l0_1.length c0_1, .int .u64 a0_2, .int .u64 a0_3, .slice A0_4 l0_4.length c0_4], .agg #[.int .u32 a1_0, .slice A1_1 l1_1.length c1_1, .int .u64 a1_2, .int .u64 a1_3, .slice A1_4 l1_4.length c1_4]] w fun e w' => e = .returned (.bool r) ∧ Below w.heap.size w w' := by
 have hu42 := Tryd.underlying42
 have HR0_1 := Aside0.mk hr0_1
 have HC0_1 := Aside0.mk hc0_1
 clear hr0_1 hc0_1
 have HR0_4 := Aside0.mk hr0_4
 have HC0_4 := Aside0.mk hc0_4
 clear hr0_4 hc0_4
 have HR1_1 := Aside0.mk hr1_1
 have HC1_1 := Aside0.mk hc1_1
 clear hr1_1 hc1_1
 have HR1_4 := Aside0.mk hr1_4
 have HC1_4 := Aside0.mk hc1_4
 clear hr1_4 hc1_4
 have HB := Aside0.mk (Below.refl w.heap.size w)
 have H : (if a0_0 = a1_0 then (if a0_2 = a1_2 then (if a0_3 = a1_3 then (if (strOfNums l0_1).toList = (strOfNums l1_1).toList then (coaminglaw05_sameTenant.j0 k ((l0_4.length : Int) != (l1_4.length : Int)) a0_0 l0_1 a0_2 a0_3 l0_4 a1_0 l1_1 a1_2 a1_3 l1_4) else (coaminglaw05_sameTenant.j0 k true a0_0 l0_1 a0_2 a0_3 l0_4 a1_0 l1_1 a1_2 a1_3 l1_4)) else (coaminglaw05_sameTenant.j0 k true a0_0 l0_1 a0_2 a0_3 l0_4 a1_0 l1_1 a1_2 a1_3 l1_4)) else (coaminglaw05_sameTenant.j0 k true a0_0 l0_1 a0_2 a0_3 l0_4 a1_0 l1_1 a1_2 a1_3 l1_4)) else (coaminglaw05_sameTenant.j0 k true a0_0 l0_1 a0_2 a0_3 l0_4 a1_0 l1_1 a1_2 a1_3 l1_4)) = some r := h
 clear h
 have HC3 := Aside0.mk H
 clear H
 go_enter Tryd.func23, Tryd.ntmps23
 go_upto_region 1 with (first | ((with_reducible refine gate_dst (N := 2) rfl ?_); (try (refine gate_guard (by rfl) ?_; dsimp only)); refine box_event ?hg (N := 2) ?hd (cs := #[.int .u32 a0_0, .slice A0_1 l0_1.length c0_1, .int .u64 a0_2, .int .u64 a0_3, .slice A0_4 l0_4.length c0_4]) (t := 42) ?hr ?_; (case hd => rfl); (case hg => rfl); (case hr => first | (go_simp; done) | (go_simp; rfl) | (go_simp; simp only [IntKind.wrap_u32, Int.emod_add_emod, Int.add_emod_emod])); intro gb285 hg w4 hbox hb; have n0_ := Aside0.mk (below_step (by repeat (first | (with_reducible first | exact HB.out | apply below_alloc | apply pw_below_drewN | apply below_drew1) | exact HB.out)) hb); have n1_ := Aside0.mk (hbox); have n2_ := Aside0.mk ((by rw [hg]; exact (below_size (by repeat (first | (with_reducible first | exact HB.out | apply below_alloc | apply pw_below_drewN | apply below_drew1) | exact HB.out))) : w.heap.size ≤ gb285)); have n3_ := Aside0.mk ((by rw [hg]; exact (below_size (by repeat (first | (with_reducible first | exact HB.out | apply below_alloc | apply pw_below_drewN | apply below_drew1) | exact HB.out))) : w.heap.size ≤ gb285)); clear HB; have HB := n0_; have BK285 := n1_; have GW285 := n2_; have GE285 := n3_; clear n0_ n1_ n2_ n3_; clear hb hbox hg) | ((with_reducible refine gate_dst (N := 3) rfl ?_); (try (refine gate_guard (by rfl) ?_; dsimp only)); refine box_event ?hg (N := 3) ?hd (cs := #[.int .u32 a1_0, .slice A1_1 l1_1.length c1_1, .int .u64 a1_2, .int .u64 a1_3, .slice A1_4 l1_4.length c1_4]) (t := 42) ?hr ?_; (case hd => rfl); (case hg => rfl); (case hr => first | (go_simp; done) | (go_simp; rfl) | (go_simp; simp only [IntKind.wrap_u32, Int.emod_add_emod, Int.add_emod_emod])); intro gb286 hg w5 hbox hb; have n0_ := Aside0.mk (blk_below (g := gb285) (o := .cells #[.int .u32 a0_0, .slice A0_1 l0_1.length c0_1, .int .u64 a0_2, .int .u64 a0_3, .slice A0_4 l0_4.length c0_4] 42 (0, 0)) (by (with_reducible repeat (first | refine blk_drewN ?_ _ | refine blk_drew ?_ | refine blk_alloc ?_ _)); exact BK285.out) hb); have n1_ := Aside0.mk (below_step (by repeat (first | (with_reducible first | exact HB.out | apply below_alloc | apply pw_below_drewN | apply below_drew1 | refine below_set ?_ GE285.out) | exact HB.out)) hb); have n2_ := Aside0.mk (hbox); have n3_ := Aside0.mk ((by rw [hg]; exact (below_size (by repeat (first | (with_reducible first | exact HB.out | apply below_alloc | apply pw_below_drewN | apply below_drew1 | refine below_set ?_ GE285.out) | exact HB.out))) : w.heap.size ≤ gb286)); have n4_ := Aside0.mk ((by rw [hg]; exact (below_size (by repeat (first | (with_reducible first | exact HB.out | apply below_alloc | apply pw_below_drewN | apply below_drew1 | refine below_set ?_ GE285.out) | exact HB.out))) : w.heap.size ≤ gb286)); have n5_ := Aside0.mk ((by rw [hg]; exact Nat.ne_of_lt (blk_lt (g := gb285) (o := .cells #[.int .u32 a0_0, .slice A0_1 l0_1.length c0_1, .int .u64 a0_2, .int .u64 a0_3, .slice A0_4 l0_4.length c0_4] 42 (0, 0)) (by (with_reducible repeat (first | refine blk_drewN ?_ _ | refine blk_drew ?_ | refine blk_alloc ?_ _)); exact BK285.out)) : gb285 ≠ gb286)); have n6_ := Aside0.mk ((by rw [hg]; exact Nat.ne_of_gt (blk_lt (g := gb285) (o := .cells #[.int .u32 a0_0, .slice A0_1 l0_1.length c0_1, .int .u64 a0_2, .int .u64 a0_3, .slice A0_4 l0_4.length c0_4] 42 (0, 0)) (by (with_reducible repeat (first | refine blk_drewN ?_ _ | refine blk_drew ?_ | refine blk_alloc ?_ _)); exact BK285.out)) : gb286 ≠ gb285)); clear BK285; clear HB; have BK285 := n0_; have HB := n1_; have BK286 := n2_; have GW286 := n3_; have GE286 := n4_; have NB285_286 := n5_; have NB286_285 := n6_; clear n0_ n1_ n2_ n3_ n4_ n5_ n6_; clear hb hbox hg))
 repeat (go_quiet (first | ((with_reducible refine gate_dst (N := 2) rfl ?_); (try (refine gate_guard (by rfl) ?_; dsimp only)); refine box_event ?hg (N := 2) ?hd (cs := #[.int .u32 a0_0, .slice A0_1 l0_1.length c0_1, .int .u64 a0_2, .int .u64 a0_3, .slice A0_4 l0_4.length c0_4]) (t := 42) ?hr ?_; (case hd => rfl); (case hg => rfl); (case hr => first | (go_simp; done) | (go_simp; rfl) | (go_simp; simp only [IntKind.wrap_u32, Int.emod_add_emod, Int.add_emod_emod])); intro gb285 hg w4 hbox hb; have n0_ := Aside0.mk (below_step (by repeat (first | (with_reducible first | exact HB.out | apply below_alloc | apply pw_below_drewN | apply below_drew1) | exact HB.out)) hb); have n1_ := Aside0.mk (hbox); have n2_ := Aside0.mk ((by rw [hg]; exact (below_size (by repeat (first | (with_reducible first | exact HB.out | apply below_alloc | apply pw_below_drewN | apply below_drew1) | exact HB.out))) : w.heap.size ≤ gb285)); have n3_ := Aside0.mk ((by rw [hg]; exact (below_size (by repeat (first | (with_reducible first | exact HB.out | apply below_alloc | apply pw_below_drewN | apply below_drew1) | exact HB.out))) : w.heap.size ≤ gb285)); clear HB; have HB := n0_; have BK285 := n1_; have GW285 := n2_; have GE285 := n3_; clear n0_ n1_ n2_ n3_; clear hb hbox hg) | ((with_reducible refine gate_dst (N := 3) rfl ?_); (try (refine gate_guard (by rfl) ?_; dsimp only)); refine box_event ?hg (N := 3) ?hd (cs := #[.int .u32 a1_0, .slice A1_1 l1_1.length c1_1, .int .u64 a1_2, .int .u64 a1_3, .slice A1_4 l1_4.length c1_4]) (t := 42) ?hr ?_; (case hd => rfl); (case hg => rfl); (case hr => first | (go_simp; done) | (go_simp; rfl) | (go_simp; simp only [IntKind.wrap_u32, Int.emod_add_emod, Int.add_emod_emod])); intro gb286 hg w5 hbox hb; have n0_ := Aside0.mk (blk_below (g := gb285) (o := .cells #[.int .u32 a0_0, .slice A0_1 l0_1.length c0_1, .int .u64 a0_2, .int .u64 a0_3, .slice A0_4 l0_4.length c0_4] 42 (0, 0)) (by (with_reducible repeat (first | refine blk_drewN ?_ _ | refine blk_drew ?_ | refine blk_alloc ?_ _)); exact BK285.out) hb); have n1_ := Aside0.mk (below_step (by repeat (first | (with_reducible first | exact HB.out | apply below_alloc | apply pw_below_drewN | apply below_drew1 | refine below_set ?_ GE285.out) | exact HB.out)) hb); have n2_ := Aside0.mk (hbox); have n3_ := Aside0.mk ((by rw [hg]; exact (below_size (by repeat (first | (with_reducible first | exact HB.out | apply below_alloc | apply pw_below_drewN | apply below_drew1 | refine below_set ?_ GE285.out) | exact HB.out))) : w.heap.size ≤ gb286)); have n4_ := Aside0.mk ((by rw [hg]; exact (below_size (by repeat (first | (with_reducible first | exact HB.out | apply below_alloc | apply pw_below_drewN | apply below_drew1 | refine below_set ?_ GE285.out) | exact HB.out))) : w.heap.size ≤ gb286)); have n5_ := Aside0.mk ((by rw [hg]; exact Nat.ne_of_lt (blk_lt (g := gb285) (o := .cells #[.int .u32 a0_0, .slice A0_1 l0_1.length c0_1, .int .u64 a0_2, .int .u64 a0_3, .slice A0_4 l0_4.length c0_4] 42 (0, 0)) (by (with_reducible repeat (first | refine blk_drewN ?_ _ | refine blk_drew ?_ | refine blk_alloc ?_ _)); exact BK285.out)) : gb285 ≠ gb286)); have n6_ := Aside0.mk ((by rw [hg]; exact Nat.ne_of_gt (blk_lt (g := gb285) (o := .cells #[.int .u32 a0_0, .slice A0_1 l0_1.length c0_1, .int .u64 a0_2, .int .u64 a0_3, .slice A0_4 l0_4.length c0_4] 42 (0, 0)) (by (with_reducible repeat (first | refine blk_drewN ?_ _ | refine blk_drew ?_ | refine blk_alloc ?_ _)); exact BK285.out)) : gb286 ≠ gb285)); clear BK285; clear HB; have BK285 := n0_; have HB := n1_; have BK286 := n2_; have GW286 := n3_; have GE286 := n4_; have NB285_286 := n5_; have NB286_285 := n6_; clear n0_ n1_ n2_ n3_ n4_ n5_ n6_; clear hb hbox hg)); go_upto_region 1 with (first | ((with_reducible refine gate_dst (N := 2) rfl ?_); (try (refine gate_guard (by rfl) ?_; dsimp only)); refine box_event ?hg (N := 2) ?hd (cs := #[.int .u32 a0_0, .slice A0_1 l0_1.length c0_1, .int .u64 a0_2, .int .u64 a0_3, .slice A0_4 l0_4.length c0_4]) (t := 42) ?hr ?_; (case hd => rfl); (case hg => rfl); (case hr => first | (go_simp; done) | (go_simp; rfl) | (go_simp; simp only [IntKind.wrap_u32, Int.emod_add_emod, Int.add_emod_emod])); intro gb285 hg w4 hbox hb; have n0_ := Aside0.mk (below_step (by repeat (first | (with_reducible first | exact HB.out | apply below_alloc | apply pw_below_drewN | apply below_drew1) | exact HB.out)) hb); have n1_ := Aside0.mk (hbox); have n2_ := Aside0.mk ((by rw [hg]; exact (below_size (by repeat (first | (with_reducible first | exact HB.out | apply below_alloc | apply pw_below_drewN | apply below_drew1) | exact HB.out))) : w.heap.size ≤ gb285)); have n3_ := Aside0.mk ((by rw [hg]; exact (below_size (by repeat (first | (with_reducible first | exact HB.out | apply below_alloc | apply pw_below_drewN | apply below_drew1) | exact HB.out))) : w.heap.size ≤ gb285)); clear HB; have HB := n0_; have BK285 := n1_; have GW285 := n2_; have GE285 := n3_; clear n0_ n1_ n2_ n3_; clear hb hbox hg) | ((with_reducible refine gate_dst (N := 3) rfl ?_); (try (refine gate_guard (by rfl) ?_; dsimp only)); refine box_event ?hg (N := 3) ?hd (cs := #[.int .u32 a1_0, .slice A1_1 l1_1.length c1_1, .int .u64 a1_2, .int .u64 a1_3, .slice A1_4 l1_4.length c1_4]) (t := 42) ?hr ?_; (case hd => rfl); (case hg => rfl); (case hr => first | (go_simp; done) | (go_simp; rfl) | (go_simp; simp only [IntKind.wrap_u32, Int.emod_add_emod, Int.add_emod_emod])); intro gb286 hg w5 hbox hb; have n0_ := Aside0.mk (blk_below (g := gb285) (o := .cells #[.int .u32 a0_0, .slice A0_1 l0_1.length c0_1, .int .u64 a0_2, .int .u64 a0_3, .slice A0_4 l0_4.length c0_4] 42 (0, 0)) (by (with_reducible repeat (first | refine blk_drewN ?_ _ | refine blk_drew ?_ | refine blk_alloc ?_ _)); exact BK285.out) hb); have n1_ := Aside0.mk (below_step (by repeat (first | (with_reducible first | exact HB.out | apply below_alloc | apply pw_below_drewN | apply below_drew1 | refine below_set ?_ GE285.out) | exact HB.out)) hb); have n2_ := Aside0.mk (hbox); have n3_ := Aside0.mk ((by rw [hg]; exact (below_size (by repeat (first | (with_reducible first | exact HB.out | apply below_alloc | apply pw_below_drewN | apply below_drew1 | refine below_set ?_ GE285.out) | exact HB.out))) : w.heap.size ≤ gb286)); have n4_ := Aside0.mk ((by rw [hg]; exact (below_size (by repeat (first | (with_reducible first | exact HB.out | apply below_alloc | apply pw_below_drewN | apply below_drew1 | refine below_set ?_ GE285.out) | exact HB.out))) : w.heap.size ≤ gb286)); have n5_ := Aside0.mk ((by rw [hg]; exact Nat.ne_of_lt (blk_lt (g := gb285) (o := .cells #[.int .u32 a0_0, .slice A0_1 l0_1.length c0_1, .int .u64 a0_2, .int .u64 a0_3, .slice A0_4 l0_4.length c0_4] 42 (0, 0)) (by (with_reducible repeat (first | refine blk_drewN ?_ _ | refine blk_drew ?_ | refine blk_alloc ?_ _)); exact BK285.out)) : gb285 ≠ gb286)); have n6_ := Aside0.mk ((by rw [hg]; exact Nat.ne_of_gt (blk_lt (g := gb285) (o := .cells #[.int .u32 a0_0, .slice A0_1 l0_1.length c0_1, .int .u64 a0_2, .int .u64 a0_3, .slice A0_4 l0_4.length c0_4] 42 (0, 0)) (by (with_reducible repeat (first | refine blk_drewN ?_ _ | refine blk_drew ?_ | refine blk_alloc ?_ _)); exact BK285.out)) : gb286 ≠ gb285)); clear BK285; clear HB; have BK285 := n0_; have HB := n1_; have BK286 := n2_; have GW286 := n3_; have GE286 := n4_; have NB285_286 := n5_; have NB286_285 := n6_; clear n0_ n1_ n2_ n3_ n4_ n5_ n6_; clear hb hbox hg)))
 (try simp only [Act.put, List.setIfInBounds_toArray, List.set_cons_zero, List.set_cons_succ])
 go_cut [42] (fun v42 wc => ∃ (kq : Nat) (x42_2 : Bool), v42 = .bool x42_2 ∧ Aside0 (coaminglaw05_sameTenant.j0 kq x42_2 a0_0 l0_1 a0_2 a0_3 l0_4 a1_0 l1_1 a1_2 a1_3 l1_4 = some r) ∧ Aside0 (kq ≤ k) ∧ Aside0 (wc.heap[gb285]? = some (.cells #[.int .u32 a0_0, (.slice A0_1 l0_1.length c0_1), .int .u64 a0_2, .int .u64 a0_3, (.slice A0_4 l0_4.length c0_4)] 42 (0, 0))) ∧ Aside0 (wc.heap[gb286]? = some (.cells #[.int .u32 a1_0, (.slice A1_1 l1_1.length c1_1), .int .u64 a1_2, .int .u64 a1_3, (.slice A1_4 l1_4.length c1_4)] 42 (0, 0))) ∧ Aside0 (Below w.heap.size w wc))
 case first =>
  have H := HC3.out
  clear HC3
  by_cases c6 : a0_0 = a1_0
  ·rw [if_pos c6] at H
   have c6b0 : (a0_0 == a1_0) = true := beq_iff_eq.mpr c6
   have c6b1 : (a0_0 != a1_0) = false := bne_eq_false_iff_eq.mpr c6
   clear c6
   (first | rw [c6b0] | (simp only [i64_w, i32_w]; rw [c6b0]) | skip)
   by_cases c7 : a0_2 = a1_2
   ·rw [if_pos c7] at H
    have c7b0 : (a0_2 == a1_2) = true := beq_iff_eq.mpr c7
    have c7b1 : (a0_2 != a1_2) = false := bne_eq_false_iff_eq.mpr c7
    clear c7
    by_cases c8 : a0_3 = a1_3
    ·rw [if_pos c8] at H
     have c8b0 : (a0_3 == a1_3) = true := beq_iff_eq.mpr c8
     have c8b1 : (a0_3 != a1_3) = false := bne_eq_false_iff_eq.mpr c8
     clear c8
     by_cases c9 : (strOfNums l0_1).toList = (strOfNums l1_1).toList
     ·rw [if_pos c9] at H
      have c9b0 : ((strOfNums l0_1).toList == (strOfNums l1_1).toList) = true := beq_iff_eq.mpr c9
      have c9b1 : ((strOfNums l0_1).toList != (strOfNums l1_1).toList) = false := bne_eq_false_iff_eq.mpr c9
      clear c9
      have H' := Aside0.mk H
      clear H
      have hnb10 := NB285_286.out
      have hnc10 := NB286_285.out
      have hcz11_0 : w5.cell? ⟨gb285, 0, none⟩ = some (.int .u32 a0_0) := (blk_cell BK285.out 0).trans rfl
      have hcz11_1 : w5.cell? ⟨gb285, 1, none⟩ = some (.slice A0_1 l0_1.length c0_1) := (blk_cell BK285.out 1).trans rfl
      have hcz11_2 : w5.cell? ⟨gb285, 2, none⟩ = some (.int .u64 a0_2) := (blk_cell BK285.out 2).trans rfl
      have hcz11_3 : w5.cell? ⟨gb285, 3, none⟩ = some (.int .u64 a0_3) := (blk_cell BK285.out 3).trans rfl
      have hcz11_4 : w5.cell? ⟨gb285, 4, none⟩ = some (.slice A0_4 l0_4.length c0_4) := (blk_cell BK285.out 4).trans rfl
      have hfz11_0 := blk_frozen BK285.out 0
      have hfz11_1 := blk_frozen BK285.out 1
      have hfz11_2 := blk_frozen BK285.out 2
      have hfz11_3 := blk_frozen BK285.out 3
      have hfz11_4 := blk_frozen BK285.out 4
      have hcz12_0 : w5.cell? ⟨gb286, 0, none⟩ = some (.int .u32 a1_0) := (blk_cell BK286.out 0).trans rfl
      have hcz12_1 : w5.cell? ⟨gb286, 1, none⟩ = some (.slice A1_1 l1_1.length c1_1) := (blk_cell BK286.out 1).trans rfl
      have hcz12_2 : w5.cell? ⟨gb286, 2, none⟩ = some (.int .u64 a1_2) := (blk_cell BK286.out 2).trans rfl
      have hcz12_3 : w5.cell? ⟨gb286, 3, none⟩ = some (.int .u64 a1_3) := (blk_cell BK286.out 3).trans rfl
      have hcz12_4 : w5.cell? ⟨gb286, 4, none⟩ = some (.slice A1_4 l1_4.length c1_4) := (blk_cell BK286.out 4).trans rfl
      have hfz12_0 := blk_frozen BK286.out 0
      have hfz12_1 := blk_frozen BK286.out 1
      have hfz12_2 := blk_frozen BK286.out 2
      have hfz12_3 := blk_frozen BK286.out 3
      have hfz12_4 := blk_frozen BK286.out 4
      have hcv13 := Kd.C_string (P := Tryd.prog) (A := A0_1) (c := c0_1) Tryd.underlying22 Tryd.underlying5 Tryd.underlying9 (Kd.C_below HR0_1.out HB.out)
      have hcv14 := Kd.C_string (P := Tryd.prog) (A := A1_1) (c := c1_1) Tryd.underlying22 Tryd.underlying5 Tryd.underlying9 (Kd.C_below HR1_1.out HB.out)
      go_wp2
      repeat (go_quiet (fail); try go_wp2)
      go_meet
      case rel => exact ⟨_, (((l0_4.length : Int) != (l1_4.length : Int))), (by first | rfl | (simp; done) | (simp [*]; done)), H', ⟨by first | omega | exact Nat.le_refl _⟩, ⟨by (with_reducible repeat (first | refine blk_drewN ?_ _ | refine blk_drew ?_ | refine blk_alloc ?_ _)); exact BK285.out⟩, ⟨by (with_reducible repeat (first | refine blk_drewN ?_ _ | refine blk_drew ?_ | refine blk_alloc ?_ _)); exact BK286.out⟩, ⟨by repeat (first | (with_reducible first | exact HB.out | apply below_alloc | apply pw_below_drewN | apply below_drew1 | refine below_set ?_ GE285.out | refine below_set ?_ GE286.out) | exact HB.out)⟩⟩
     ·rw [if_neg c9] at H
      have c9b0 : ((strOfNums l0_1).toList == (strOfNums l1_1).toList) = false := beq_eq_false_iff_ne.mpr c9
      have c9b1 : ((strOfNums l0_1).toList != (strOfNums l1_1).toList) = true := bne_iff_ne.mpr c9
      have H' := Aside0.mk H
      clear H
      have hnb15 := NB285_286.out
      have hnc15 := NB286_285.out
      have hcz16_0 : w5.cell? ⟨gb285, 0, none⟩ = some (.int .u32 a0_0) := (blk_cell BK285.out 0).trans rfl
      have hcz16_1 : w5.cell? ⟨gb285, 1, none⟩ = some (.slice A0_1 l0_1.length c0_1) := (blk_cell BK285.out 1).trans rfl
      have hcz16_2 : w5.cell? ⟨gb285, 2, none⟩ = some (.int .u64 a0_2) := (blk_cell BK285.out 2).trans rfl
      have hcz16_3 : w5.cell? ⟨gb285, 3, none⟩ = some (.int .u64 a0_3) := (blk_cell BK285.out 3).trans rfl
      have hcz16_4 : w5.cell? ⟨gb285, 4, none⟩ = some (.slice A0_4 l0_4.length c0_4) := (blk_cell BK285.out 4).trans rfl
      have hfz16_0 := blk_frozen BK285.out 0
      have hfz16_1 := blk_frozen BK285.out 1
      have hfz16_2 := blk_frozen BK285.out 2
      have hfz16_3 := blk_frozen BK285.out 3
      have hfz16_4 := blk_frozen BK285.out 4
      have hcz17_0 : w5.cell? ⟨gb286, 0, none⟩ = some (.int .u32 a1_0) := (blk_cell BK286.out 0).trans rfl
      have hcz17_1 : w5.cell? ⟨gb286, 1, none⟩ = some (.slice A1_1 l1_1.length c1_1) := (blk_cell BK286.out 1).trans rfl
      have hcz17_2 : w5.cell? ⟨gb286, 2, none⟩ = some (.int .u64 a1_2) := (blk_cell BK286.out 2).trans rfl
      have hcz17_3 : w5.cell? ⟨gb286, 3, none⟩ = some (.int .u64 a1_3) := (blk_cell BK286.out 3).trans rfl
      have hcz17_4 : w5.cell? ⟨gb286, 4, none⟩ = some (.slice A1_4 l1_4.length c1_4) := (blk_cell BK286.out 4).trans rfl
      have hfz17_0 := blk_frozen BK286.out 0
      have hfz17_1 := blk_frozen BK286.out 1
      have hfz17_2 := blk_frozen BK286.out 2
      have hfz17_3 := blk_frozen BK286.out 3
      have hfz17_4 := blk_frozen BK286.out 4
      have hcv18 := Kd.C_string (P := Tryd.prog) (A := A0_1) (c := c0_1) Tryd.underlying22 Tryd.underlying5 Tryd.underlying9 (Kd.C_below HR0_1.out HB.out)
      have hcv19 := Kd.C_string (P := Tryd.prog) (A := A1_1) (c := c1_1) Tryd.underlying22 Tryd.underlying5 Tryd.underlying9 (Kd.C_below HR1_1.out HB.out)
      go_wp2
      repeat (go_quiet (fail); try go_wp2)
      go_meet
      case rel => exact ⟨_, (true), (by first | rfl | (simp; done) | (simp [*]; done)), H', ⟨by first | omega | exact Nat.le_refl _⟩, ⟨by (with_reducible repeat (first | refine blk_drewN ?_ _ | refine blk_drew ?_ | refine blk_alloc ?_ _)); exact BK285.out⟩, ⟨by (with_reducible repeat (first | refine blk_drewN ?_ _ | refine blk_drew ?_ | refine blk_alloc ?_ _)); exact BK286.out⟩, ⟨by repeat (first | (with_reducible first | exact HB.out | apply below_alloc | apply pw_below_drewN | apply below_drew1 | refine below_set ?_ GE285.out | refine below_set ?_ GE286.out) | exact HB.out)⟩⟩
    ·rw [if_neg c8] at H
     have c8b0 : (a0_3 == a1_3) = false := beq_eq_false_iff_ne.mpr c8
     have c8b1 : (a0_3 != a1_3) = true := bne_iff_ne.mpr c8
     have H' := Aside0.mk H
     clear H
     have hnb20 := NB285_286.out
     have hnc20 := NB286_285.out
     have hcz21_0 : w5.cell? ⟨gb285, 0, none⟩ = some (.int .u32 a0_0) := (blk_cell BK285.out 0).trans rfl
     have hcz21_1 : w5.cell? ⟨gb285, 1, none⟩ = some (.slice A0_1 l0_1.length c0_1) := (blk_cell BK285.out 1).trans rfl
     have hcz21_2 : w5.cell? ⟨gb285, 2, none⟩ = some (.int .u64 a0_2) := (blk_cell BK285.out 2).trans rfl
     have hcz21_3 : w5.cell? ⟨gb285, 3, none⟩ = some (.int .u64 a0_3) := (blk_cell BK285.out 3).trans rfl
     have hcz21_4 : w5.cell? ⟨gb285, 4, none⟩ = some (.slice A0_4 l0_4.length c0_4) := (blk_cell BK285.out 4).trans rfl
     have hfz21_0 := blk_frozen BK285.out 0
     have hfz21_1 := blk_frozen BK285.out 1
     have hfz21_2 := blk_frozen BK285.out 2
     have hfz21_3 := blk_frozen BK285.out 3
     have hfz21_4 := blk_frozen BK285.out 4
     have hcz22_0 : w5.cell? ⟨gb286, 0, none⟩ = some (.int .u32 a1_0) := (blk_cell BK286.out 0).trans rfl
     have hcz22_1 : w5.cell? ⟨gb286, 1, none⟩ = some (.slice A1_1 l1_1.length c1_1) := (blk_cell BK286.out 1).trans rfl
     have hcz22_2 : w5.cell? ⟨gb286, 2, none⟩ = some (.int .u64 a1_2) := (blk_cell BK286.out 2).trans rfl
     have hcz22_3 : w5.cell? ⟨gb286, 3, none⟩ = some (.int .u64 a1_3) := (blk_cell BK286.out 3).trans rfl
     have hcz22_4 : w5.cell? ⟨gb286, 4, none⟩ = some (.slice A1_4 l1_4.length c1_4) := (blk_cell BK286.out 4).trans rfl
     have hfz22_0 := blk_frozen BK286.out 0
     have hfz22_1 := blk_frozen BK286.out 1
     have hfz22_2 := blk_frozen BK286.out 2
     have hfz22_3 := blk_frozen BK286.out 3
     have hfz22_4 := blk_frozen BK286.out 4
     go_wp2
     repeat (go_quiet (fail); try go_wp2)
     go_meet
     case rel => exact ⟨_, (true), (by first | rfl | (simp; done) | (simp [*]; done)), H', ⟨by first | omega | exact Nat.le_refl _⟩, ⟨by (with_reducible repeat (first | refine blk_drewN ?_ _ | refine blk_drew ?_ | refine blk_alloc ?_ _)); exact BK285.out⟩, ⟨by (with_reducible repeat (first | refine blk_drewN ?_ _ | refine blk_drew ?_ | refine blk_alloc ?_ _)); exact BK286.out⟩, ⟨by repeat (first | (with_reducible first | exact HB.out | apply below_alloc | apply pw_below_drewN | apply below_drew1 | refine below_set ?_ GE285.out | refine below_set ?_ GE286.out) | exact HB.out)⟩⟩
   ·rw [if_neg c7] at H
    have c7b0 : (a0_2 == a1_2) = false := beq_eq_false_iff_ne.mpr c7
    have c7b1 : (a0_2 != a1_2) = true := bne_iff_ne.mpr c7
    have H' := Aside0.mk H
    clear H
    have hnb23 := NB285_286.out
    have hnc23 := NB286_285.out
    have hcz24_0 : w5.cell? ⟨gb285, 0, none⟩ = some (.int .u32 a0_0) := (blk_cell BK285.out 0).trans rfl
    have hcz24_1 : w5.cell? ⟨gb285, 1, none⟩ = some (.slice A0_1 l0_1.length c0_1) := (blk_cell BK285.out 1).trans rfl
    have hcz24_2 : w5.cell? ⟨gb285, 2, none⟩ = some (.int .u64 a0_2) := (blk_cell BK285.out 2).trans rfl
    have hcz24_3 : w5.cell? ⟨gb285, 3, none⟩ = some (.int .u64 a0_3) := (blk_cell BK285.out 3).trans rfl
    have hcz24_4 : w5.cell? ⟨gb285, 4, none⟩ = some (.slice A0_4 l0_4.length c0_4) := (blk_cell BK285.out 4).trans rfl
    have hfz24_0 := blk_frozen BK285.out 0
    have hfz24_1 := blk_frozen BK285.out 1
    have hfz24_2 := blk_frozen BK285.out 2
    have hfz24_3 := blk_frozen BK285.out 3
    have hfz24_4 := blk_frozen BK285.out 4
    have hcz25_0 : w5.cell? ⟨gb286, 0, none⟩ = some (.int .u32 a1_0) := (blk_cell BK286.out 0).trans rfl
    have hcz25_1 : w5.cell? ⟨gb286, 1, none⟩ = some (.slice A1_1 l1_1.length c1_1) := (blk_cell BK286.out 1).trans rfl
    have hcz25_2 : w5.cell? ⟨gb286, 2, none⟩ = some (.int .u64 a1_2) := (blk_cell BK286.out 2).trans rfl
    have hcz25_3 : w5.cell? ⟨gb286, 3, none⟩ = some (.int .u64 a1_3) := (blk_cell BK286.out 3).trans rfl
    have hcz25_4 : w5.cell? ⟨gb286, 4, none⟩ = some (.slice A1_4 l1_4.length c1_4) := (blk_cell BK286.out 4).trans rfl
    have hfz25_0 := blk_frozen BK286.out 0
    have hfz25_1 := blk_frozen BK286.out 1
    have hfz25_2 := blk_frozen BK286.out 2
    have hfz25_3 := blk_frozen BK286.out 3
    have hfz25_4 := blk_frozen BK286.out 4
    go_wp2
    repeat (go_quiet (fail); try go_wp2)
    go_meet
    case rel => exact ⟨_, (true), (by first | rfl | (simp; done) | (simp [*]; done)), H', ⟨by first | omega | exact Nat.le_refl _⟩, ⟨by (with_reducible repeat (first | refine blk_drewN ?_ _ | refine blk_drew ?_ | refine blk_alloc ?_ _)); exact BK285.out⟩, ⟨by (with_reducible repeat (first | refine blk_drewN ?_ _ | refine blk_drew ?_ | refine blk_alloc ?_ _)); exact BK286.out⟩, ⟨by repeat (first | (with_reducible first | exact HB.out | apply below_alloc | apply pw_below_drewN | apply below_drew1 | refine below_set ?_ GE285.out | refine below_set ?_ GE286.out) | exact HB.out)⟩⟩
  ·rw [if_neg c6] at H
   have c6b0 : (a0_0 == a1_0) = false := beq_eq_false_iff_ne.mpr c6
   have c6b1 : (a0_0 != a1_0) = true := bne_iff_ne.mpr c6
   (first | rw [c6b0] | (simp only [i64_w, i32_w]; rw [c6b0]) | skip)
   have H' := Aside0.mk H
   clear H
   have hnb26 := NB285_286.out
   have hnc26 := NB286_285.out
   have hcz27_0 : w5.cell? ⟨gb285, 0, none⟩ = some (.int .u32 a0_0) := (blk_cell BK285.out 0).trans rfl
   have hcz27_1 : w5.cell? ⟨gb285, 1, none⟩ = some (.slice A0_1 l0_1.length c0_1) := (blk_cell BK285.out 1).trans rfl
   have hcz27_2 : w5.cell? ⟨gb285, 2, none⟩ = some (.int .u64 a0_2) := (blk_cell BK285.out 2).trans rfl
   have hcz27_3 : w5.cell? ⟨gb285, 3, none⟩ = some (.int .u64 a0_3) := (blk_cell BK285.out 3).trans rfl
   have hcz27_4 : w5.cell? ⟨gb285, 4, none⟩ = some (.slice A0_4 l0_4.length c0_4) := (blk_cell BK285.out 4).trans rfl
   have hfz27_0 := blk_frozen BK285.out 0
   have hfz27_1 := blk_frozen BK285.out 1
   have hfz27_2 := blk_frozen BK285.out 2
   have hfz27_3 := blk_frozen BK285.out 3
   have hfz27_4 := blk_frozen BK285.out 4
   have hcz28_0 : w5.cell? ⟨gb286, 0, none⟩ = some (.int .u32 a1_0) := (blk_cell BK286.out 0).trans rfl
   have hcz28_1 : w5.cell? ⟨gb286, 1, none⟩ = some (.slice A1_1 l1_1.length c1_1) := (blk_cell BK286.out 1).trans rfl
   have hcz28_2 : w5.cell? ⟨gb286, 2, none⟩ = some (.int .u64 a1_2) := (blk_cell BK286.out 2).trans rfl
   have hcz28_3 : w5.cell? ⟨gb286, 3, none⟩ = some (.int .u64 a1_3) := (blk_cell BK286.out 3).trans rfl
   have hcz28_4 : w5.cell? ⟨gb286, 4, none⟩ = some (.slice A1_4 l1_4.length c1_4) := (blk_cell BK286.out 4).trans rfl
   have hfz28_0 := blk_frozen BK286.out 0
   have hfz28_1 := blk_frozen BK286.out 1
   have hfz28_2 := blk_frozen BK286.out 2
   have hfz28_3 := blk_frozen BK286.out 3
   have hfz28_4 := blk_frozen BK286.out 4
   go_wp2
   repeat (go_quiet (fail); try go_wp2)
   go_meet
   case rel => exact ⟨_, (true), (by first | rfl | (simp; done) | (simp [*]; done)), H', ⟨by first | omega | exact Nat.le_refl _⟩, ⟨by (with_reducible repeat (first | refine blk_drewN ?_ _ | refine blk_drew ?_ | refine blk_alloc ?_ _)); exact BK285.out⟩, ⟨by (with_reducible repeat (first | refine blk_drewN ?_ _ | refine blk_drew ?_ | refine blk_alloc ?_ _)); exact BK286.out⟩, ⟨by repeat (first | (with_reducible first | exact HB.out | apply below_alloc | apply pw_below_drewN | apply below_drew1 | refine below_set ?_ GE285.out | refine below_set ?_ GE286.out) | exact HB.out)⟩⟩
 case rest =>
  clear HC3
  try clear c1
  try clear hcv1
  try clear c2
  try clear p2
  try clear c6
  try clear c6b0
  try clear c6b1
  try clear c7
  try clear c7b0
  try clear c7b1
  try clear c8
  try clear c8b0
  try clear c8b1
  try clear c9
  try clear c9b0
  try clear c9b1
  try clear c10
  try clear hcv13
  try clear hcv14
  try clear c15
  try clear hcv18
  try clear hcv19
  try clear c20
  try clear c23
  try clear c26
  try clear hcz11_0
  try clear hcz11_1
  try clear hcz11_2
  try clear hcz11_3
  try clear hcz11_4
  try clear hcz12_0
  try clear hcz12_1
  try clear hcz12_2
  try clear hcz12_3
  try clear hcz12_4
  try clear hcz16_0
  try clear hcz16_1
  try clear hcz16_2
  try clear hcz16_3
  try clear hcz16_4
  try clear hcz17_0
  try clear hcz17_1
  try clear hcz17_2
  try clear hcz17_3
  try clear hcz17_4
  try clear hcz21_0
  try clear hcz21_1
  try clear hcz21_2
  try clear hcz21_3
  try clear hcz21_4
  try clear hcz22_0
  try clear hcz22_1
  try clear hcz22_2
  try clear hcz22_3
  try clear hcz22_4
  try clear hcz24_0
  try clear hcz24_1
  try clear hcz24_2
  try clear hcz24_3
  try clear hcz24_4
  try clear hcz25_0
  try clear hcz25_1
  try clear hcz25_2
  try clear hcz25_3
  try clear hcz25_4
  try clear hcz27_0
  try clear hcz27_1
  try clear hcz27_2
  try clear hcz27_3
  try clear hcz27_4
  try clear hcz28_0
  try clear hcz28_1
  try clear hcz28_2
  try clear hcz28_3
  try clear hcz28_4
  try clear hfz11_0
  try clear hfz11_1
  try clear hfz11_2
  try clear hfz11_3
  try clear hfz11_4
  try clear hfz12_0
  try clear hfz12_1
  try clear hfz12_2
  try clear hfz12_3
  try clear hfz12_4
  try clear hfz16_0
  try clear hfz16_1
  try clear hfz16_2
  try clear hfz16_3
  try clear hfz16_4
  try clear hfz17_0
  try clear hfz17_1
  try clear hfz17_2
  try clear hfz17_3
  try clear hfz17_4
  try clear hfz21_0
  try clear hfz21_1
  try clear hfz21_2
  try clear hfz21_3
  try clear hfz21_4
  try clear hfz22_0
  try clear hfz22_1
  try clear hfz22_2
  try clear hfz22_3
  try clear hfz22_4
  try clear hfz24_0
  try clear hfz24_1
  try clear hfz24_2
  try clear hfz24_3
  try clear hfz24_4
  try clear hfz25_0
  try clear hfz25_1
  try clear hfz25_2
  try clear hfz25_3
  try clear hfz25_4
  try clear hfz27_0
  try clear hfz27_1
  try clear hfz27_2
  try clear hfz27_3
  try clear hfz27_4
  try clear hfz28_0
  try clear hfz28_1
  try clear hfz28_2
  try clear hfz28_3
  try clear hfz28_4
  obtain ⟨kq, x42_2, rfl, HA, HJ2, BK285, BK286, HB⟩ := hcut
  cases kq with
  | zero => exact absurd HA.out (by simp [coaminglaw05_sameTenant.j0])
  | succ kj2 =>
   have H := HA.out
   clear HA
   simp only [coaminglaw05_sameTenant.j0] at H
   by_cases c29 : x42_2 = true
   ·subst c29
    have H1 : (some false) = some r := by rw [if_pos rfl] at H; exact H
    clear H
    have H := H1
    clear H1
    obtain rfl := Option.some.inj H
    go_wp2
    repeat (go_quiet (fail); try go_wp2)
    go_ret
    exact ⟨by first | rfl | (simp [errW_none, errW_some] <;> rfl) | (simp [*, errW_none, errW_some] <;> rfl), by repeat (first | (with_reducible first | exact HB.out | apply below_alloc | apply pw_below_drewN | apply below_drew1 | refine below_set ?_ GE285.out | refine below_set ?_ GE286.out) | exact HB.out)⟩
   ·replace c29 := Bool.eq_false_iff.mpr c29
    subst c29
    have H1 : (coaminglaw05_sameTenant.l0 kj2 0 a0_0 l0_1 a0_2 a0_3 l0_4 a1_0 l1_1 a1_2 a1_3 l1_4) = some r := by rw [if_neg (show ¬ (false = true) by decide)] at H; exact H
    clear H
    have H := H1
    clear H1
    have H' := Aside0.mk H
    clear H
    go_wp2
    repeat (go_quiet (fail); try go_wp2)
    go_loopg [5] kj2 (fun kq v5 w' => ∃ (x5_2 : Int), v5 = .int .i64 x5_2 ∧ Aside0 (coaminglaw05_sameTenant.l0 kq x5_2 a0_0 l0_1 a0_2 a0_3 l0_4 a1_0 l1_1 a1_2 a1_3 l1_4 = some r) ∧ Aside0 (kq ≤ kj2) ∧ Aside0 (w'.heap[gb285]? = some (.cells #[.int .u32 a0_0, (.slice A0_1 l0_1.length c0_1), .int .u64 a0_2, .int .u64 a0_3, (.slice A0_4 l0_4.length c0_4)] 42 (0, 0))) ∧ Aside0 (w'.heap[gb286]? = some (.cells #[.int .u32 a1_0, (.slice A1_1 l1_1.length c1_1), .int .u64 a1_2, .int .u64 a1_3, (.slice A1_4 l1_4.length c1_4)] 42 (0, 0))) ∧ Aside0 (Below w.heap.size w w'))
    case atStart => exact ⟨(0), (by first | rfl | (simp; done) | (simp [*]; done)), H', ⟨Nat.le_refl _⟩, ⟨by (with_reducible repeat (first | refine blk_drewN ?_ _ | refine blk_drew ?_ | refine blk_alloc ?_ _)); exact BK285.out⟩, ⟨by (with_reducible repeat (first | refine blk_drewN ?_ _ | refine blk_drew ?_ | refine blk_alloc ?_ _)); exact BK286.out⟩, ⟨by repeat (first | (with_reducible first | exact HB.out | apply below_alloc | apply pw_below_drewN | apply below_drew1 | refine below_set ?_ GE285.out | refine below_set ?_ GE286.out) | exact HB.out)⟩⟩
    case round =>
     clear H'
     try clear c1
     try clear hcv1
     try clear c2
     try clear p2
     try clear c6
     try clear c6b0
     try clear c6b1
     try clear c7
     try clear c7b0
     try clear c7b1
     try clear c8
     try clear c8b0
     try clear c8b1
     try clear c9
     try clear c9b0
     try clear c9b1
     try clear c10
     try clear hcv13
     try clear hcv14
     try clear c15
     try clear hcv18
     try clear hcv19
     try clear c20
     try clear c23
     try clear c26
     try clear c29
     try clear hcz11_0
     try clear hcz11_1
     try clear hcz11_2
     try clear hcz11_3
     try clear hcz11_4
     try clear hcz12_0
     try clear hcz12_1
     try clear hcz12_2
     try clear hcz12_3
     try clear hcz12_4
     try clear hcz16_0
     try clear hcz16_1
     try clear hcz16_2
     try clear hcz16_3
     try clear hcz16_4
     try clear hcz17_0
     try clear hcz17_1
     try clear hcz17_2
     try clear hcz17_3
     try clear hcz17_4
     try clear hcz21_0
     try clear hcz21_1
     try clear hcz21_2
     try clear hcz21_3
     try clear hcz21_4
     try clear hcz22_0
     try clear hcz22_1
     try clear hcz22_2
     try clear hcz22_3
     try clear hcz22_4
     try clear hcz24_0
     try clear hcz24_1
     try clear hcz24_2
     try clear hcz24_3
     try clear hcz24_4
     try clear hcz25_0
     try clear hcz25_1
     try clear hcz25_2
     try clear hcz25_3
     try clear hcz25_4
     try clear hcz27_0
     try clear hcz27_1
     try clear hcz27_2
     try clear hcz27_3
     try clear hcz27_4
     try clear hcz28_0
     try clear hcz28_1
     try clear hcz28_2
     try clear hcz28_3
     try clear hcz28_4
     try clear hfz11_0
     try clear hfz11_1
     try clear hfz11_2
     try clear hfz11_3
     try clear hfz11_4
     try clear hfz12_0
     try clear hfz12_1
     try clear hfz12_2
     try clear hfz12_3
     try clear hfz12_4
     try clear hfz16_0
     try clear hfz16_1
     try clear hfz16_2
     try clear hfz16_3
     try clear hfz16_4
     try clear hfz17_0
     try clear hfz17_1
     try clear hfz17_2
     try clear hfz17_3
     try clear hfz17_4
     try clear hfz21_0
     try clear hfz21_1
     try clear hfz21_2
     try clear hfz21_3
     try clear hfz21_4
     try clear hfz22_0
     try clear hfz22_1
     try clear hfz22_2
     try clear hfz22_3
     try clear hfz22_4
     try clear hfz24_0
     try clear hfz24_1
     try clear hfz24_2
     try clear hfz24_3
     try clear hfz24_4
     try clear hfz25_0
     try clear hfz25_1
     try clear hfz25_2
     try clear hfz25_3
     try clear hfz25_4
     try clear hfz27_0
     try clear hfz27_1
     try clear hfz27_2
     try clear hfz27_3
     try clear hfz27_4
     try clear hfz28_0
     try clear hfz28_1
     try clear hfz28_2
     try clear hfz28_3
     try clear hfz28_4
     try clear p2
     obtain ⟨x5_2, rfl, HA, HK2, BK285, BK286, HB⟩ := hrel
     cases gk with
     | zero => exact absurd HA.out (by simp [coaminglaw05_sameTenant.l0])
     | succ k2 =>
      have H := HA.out
      clear HA
      simp only [coaminglaw05_sameTenant.l0] at H
      by_cases c30 : x5_2 < (l0_4.length : Int)
      ·rw [if_pos c30] at H
       have c30b0 : decide (x5_2 < (l0_4.length : Int)) = true := decide_eq_true c30
       clear c30
       by_cases c31 : 0 ≤ x5_2
       ·rw [if_pos c31] at H
        have c31b0 : decide (0 ≤ x5_2) = true := decide_eq_true c31
        clear c31
        by_cases c32 : x5_2 < (l1_4.length : Int)
        ·rw [if_pos c32] at H
         have c32b0 : decide (x5_2 < (l1_4.length : Int)) = true := decide_eq_true c32
         clear c32
         by_cases c33 : (rd l0_4 x5_2) = (rd l1_4 x5_2)
         ·rw [if_pos c33] at H
          have c33b0 : ((rd l0_4 x5_2) == (rd l1_4 x5_2)) = true := beq_iff_eq.mpr c33
          have c33b1 : ((rd l0_4 x5_2) != (rd l1_4 x5_2)) = false := bne_eq_false_iff_eq.mpr c33
          clear c33
          have H' := Aside0.mk H
          clear H
          have hnb34 := NB285_286.out
          have hnc34 := NB286_285.out
          have hcz35_0 : wr.cell? ⟨gb285, 0, none⟩ = some (.int .u32 a0_0) := (blk_cell BK285.out 0).trans rfl
          have hcz35_1 : wr.cell? ⟨gb285, 1, none⟩ = some (.slice A0_1 l0_1.length c0_1) := (blk_cell BK285.out 1).trans rfl
          have hcz35_2 : wr.cell? ⟨gb285, 2, none⟩ = some (.int .u64 a0_2) := (blk_cell BK285.out 2).trans rfl
          have hcz35_3 : wr.cell? ⟨gb285, 3, none⟩ = some (.int .u64 a0_3) := (blk_cell BK285.out 3).trans rfl
          have hcz35_4 : wr.cell? ⟨gb285, 4, none⟩ = some (.slice A0_4 l0_4.length c0_4) := (blk_cell BK285.out 4).trans rfl
          have hfz35_0 := blk_frozen BK285.out 0
          have hfz35_1 := blk_frozen BK285.out 1
          have hfz35_2 := blk_frozen BK285.out 2
          have hfz35_3 := blk_frozen BK285.out 3
          have hfz35_4 := blk_frozen BK285.out 4
          have p287 : 0 ≤ (x5_2 : Int) := of_decide_eq_true (by first | (with_reducible assumption) | assumption)
          have q287 : x5_2 < (l0_4.length : Int) := of_decide_eq_true (by first | (with_reducible assumption) | assumption)
          obtain ⟨ad287, e287, hx287_0⟩ := Kd.at_int HR0_4.out x5_2 p287 q287
          cases e287
          replace hx287_0 := (HB.out.cell (World.block_lt_of_cell? w _ hx287_0)).trans hx287_0
          replace p287 := eq_true p287
          replace q287 := eq_true q287
          have hcz36_0 : wr.cell? ⟨gb286, 0, none⟩ = some (.int .u32 a1_0) := (blk_cell BK286.out 0).trans rfl
          have hcz36_1 : wr.cell? ⟨gb286, 1, none⟩ = some (.slice A1_1 l1_1.length c1_1) := (blk_cell BK286.out 1).trans rfl
          have hcz36_2 : wr.cell? ⟨gb286, 2, none⟩ = some (.int .u64 a1_2) := (blk_cell BK286.out 2).trans rfl
          have hcz36_3 : wr.cell? ⟨gb286, 3, none⟩ = some (.int .u64 a1_3) := (blk_cell BK286.out 3).trans rfl
          have hcz36_4 : wr.cell? ⟨gb286, 4, none⟩ = some (.slice A1_4 l1_4.length c1_4) := (blk_cell BK286.out 4).trans rfl
          have hfz36_0 := blk_frozen BK286.out 0
          have hfz36_1 := blk_frozen BK286.out 1
          have hfz36_2 := blk_frozen BK286.out 2
          have hfz36_3 := blk_frozen BK286.out 3
          have hfz36_4 := blk_frozen BK286.out 4
          have p288 : 0 ≤ (x5_2 : Int) := of_decide_eq_true (by first | (with_reducible assumption) | assumption)
          have q288 : x5_2 < (l1_4.length : Int) := of_decide_eq_true (by first | (with_reducible assumption) | assumption)
          obtain ⟨ad288, e288, hx288_0⟩ := Kd.at_int HR1_4.out x5_2 p288 q288
          cases e288
          replace hx288_0 := (HB.out.cell (World.block_lt_of_cell? w _ hx288_0)).trans hx288_0
          replace p288 := eq_true p288
          replace q288 := eq_true q288
          go_wp2
          repeat (go_quiet (fail); try go_wp2)
          go_roundg k2
          case measure => have := HJ2.out; have := HK2.out; omega
          case rel => exact ⟨(wrap64 (x5_2 + 1)), (by first | rfl | (simp; done) | (simp [*]; done)), H', ⟨by have := HJ2.out; have := HK2.out; omega⟩, ⟨by (with_reducible repeat (first | refine blk_drewN ?_ _ | refine blk_drew ?_ | refine blk_alloc ?_ _)); exact BK285.out⟩, ⟨by (with_reducible repeat (first | refine blk_drewN ?_ _ | refine blk_drew ?_ | refine blk_alloc ?_ _)); exact BK286.out⟩, ⟨by repeat (first | (with_reducible first | exact HB.out | apply below_alloc | apply pw_below_drewN | apply below_drew1 | refine below_set ?_ GE285.out | refine below_set ?_ GE286.out) | exact HB.out)⟩⟩
         ·rw [if_neg c33] at H
          have c33b0 : ((rd l0_4 x5_2) == (rd l1_4 x5_2)) = false := beq_eq_false_iff_ne.mpr c33
          have c33b1 : ((rd l0_4 x5_2) != (rd l1_4 x5_2)) = true := bne_iff_ne.mpr c33
          obtain rfl := Option.some.inj H
          have hnb37 := NB285_286.out
          have hnc37 := NB286_285.out
          have hcz38_0 : wr.cell? ⟨gb285, 0, none⟩ = some (.int .u32 a0_0) := (blk_cell BK285.out 0).trans rfl
          have hcz38_1 : wr.cell? ⟨gb285, 1, none⟩ = some (.slice A0_1 l0_1.length c0_1) := (blk_cell BK285.out 1).trans rfl
          have hcz38_2 : wr.cell? ⟨gb285, 2, none⟩ = some (.int .u64 a0_2) := (blk_cell BK285.out 2).trans rfl
          have hcz38_3 : wr.cell? ⟨gb285, 3, none⟩ = some (.int .u64 a0_3) := (blk_cell BK285.out 3).trans rfl
          have hcz38_4 : wr.cell? ⟨gb285, 4, none⟩ = some (.slice A0_4 l0_4.length c0_4) := (blk_cell BK285.out 4).trans rfl
          have hfz38_0 := blk_frozen BK285.out 0
          have hfz38_1 := blk_frozen BK285.out 1
          have hfz38_2 := blk_frozen BK285.out 2
          have hfz38_3 := blk_frozen BK285.out 3
          have hfz38_4 := blk_frozen BK285.out 4
          have p287 : 0 ≤ (x5_2 : Int) := of_decide_eq_true (by first | (with_reducible assumption) | assumption)
          have q287 : x5_2 < (l0_4.length : Int) := of_decide_eq_true (by first | (with_reducible assumption) | assumption)
          obtain ⟨ad287, e287, hx287_0⟩ := Kd.at_int HR0_4.out x5_2 p287 q287
          cases e287
          replace hx287_0 := (HB.out.cell (World.block_lt_of_cell? w _ hx287_0)).trans hx287_0
          replace p287 := eq_true p287
          replace q287 := eq_true q287
          have hcz39_0 : wr.cell? ⟨gb286, 0, none⟩ = some (.int .u32 a1_0) := (blk_cell BK286.out 0).trans rfl
          have hcz39_1 : wr.cell? ⟨gb286, 1, none⟩ = some (.slice A1_1 l1_1.length c1_1) := (blk_cell BK286.out 1).trans rfl
          have hcz39_2 : wr.cell? ⟨gb286, 2, none⟩ = some (.int .u64 a1_2) := (blk_cell BK286.out 2).trans rfl
          have hcz39_3 : wr.cell? ⟨gb286, 3, none⟩ = some (.int .u64 a1_3) := (blk_cell BK286.out 3).trans rfl
          have hcz39_4 : wr.cell? ⟨gb286, 4, none⟩ = some (.slice A1_4 l1_4.length c1_4) := (blk_cell BK286.out 4).trans rfl
          have hfz39_0 := blk_frozen BK286.out 0
          have hfz39_1 := blk_frozen BK286.out 1
          have hfz39_2 := blk_frozen BK286.out 2
          have hfz39_3 := blk_frozen BK286.out 3
          have hfz39_4 := blk_frozen BK286.out 4
          have p288 : 0 ≤ (x5_2 : Int) := of_decide_eq_true (by first | (with_reducible assumption) | assumption)
          have q288 : x5_2 < (l1_4.length : Int) := of_decide_eq_true (by first | (with_reducible assumption) | assumption)
          obtain ⟨ad288, e288, hx288_0⟩ := Kd.at_int HR1_4.out x5_2 p288 q288
          cases e288
          replace hx288_0 := (HB.out.cell (World.block_lt_of_cell? w _ hx288_0)).trans hx288_0
          replace p288 := eq_true p288
          replace q288 := eq_true q288
          go_wp2
          repeat (go_quiet (fail); try go_wp2)
          go_ret
          exact ⟨by first | rfl | (simp [errW_none, errW_some] <;> rfl) | (simp [*, errW_none, errW_some] <;> rfl), by repeat (first | (with_reducible first | exact HB.out | apply below_alloc | apply pw_below_drewN | apply below_drew1 | refine below_set ?_ GE285.out | refine below_set ?_ GE286.out) | exact HB.out)⟩
        ·rw [if_neg c32] at H
         exact absurd H (by simp)
       ·rw [if_neg c31] at H
        exact absurd H (by simp)
      ·rw [if_neg c30] at H
       have c30b0 : decide (x5_2 < (l0_4.length : Int)) = false := decide_eq_false c30
       clear c30
       obtain rfl := Option.some.inj H
       have hnb40 := NB285_286.out
       have hnc40 := NB286_285.out
       have hcz41_0 : wr.cell? ⟨gb285, 0, none⟩ = some (.int .u32 a0_0) := (blk_cell BK285.out 0).trans rfl
       have hcz41_1 : wr.cell? ⟨gb285, 1, none⟩ = some (.slice A0_1 l0_1.length c0_1) := (blk_cell BK285.out 1).trans rfl
       have hcz41_2 : wr.cell? ⟨gb285, 2, none⟩ = some (.int .u64 a0_2) := (blk_cell BK285.out 2).trans rfl
       have hcz41_3 : wr.cell? ⟨gb285, 3, none⟩ = some (.int .u64 a0_3) := (blk_cell BK285.out 3).trans rfl
       have hcz41_4 : wr.cell? ⟨gb285, 4, none⟩ = some (.slice A0_4 l0_4.length c0_4) := (blk_cell BK285.out 4).trans rfl
       have hfz41_0 := blk_frozen BK285.out 0
       have hfz41_1 := blk_frozen BK285.out 1
       have hfz41_2 := blk_frozen BK285.out 2
       have hfz41_3 := blk_frozen BK285.out 3
       have hfz41_4 := blk_frozen BK285.out 4
       go_wp2
       repeat (go_quiet (fail); try go_wp2)
       go_ret
       exact ⟨by first | rfl | (simp [errW_none, errW_some] <;> rfl) | (simp [*, errW_none, errW_some] <;> rfl), by repeat (first | (with_reducible first | exact HB.out | apply below_alloc | apply pw_below_drewN | apply below_drew1 | refine below_set ?_ GE285.out | refine below_set ?_ GE286.out) | exact HB.out)⟩
end Go.Proofs.YtabdnlecpndfjaaDoor.PBase
namespace Go.Proofs.YtabdnlecpndfjaaDoor.PBase
open Go.RowKit Go.Proofs.YtabdnlecpndfjaaDoorW.PrintWords Go.Proofs.YtabdnlecpndfjaaDoorW.PrintLast Go.Proofs.YtabdnlecpndfjaaDoorW.PrintMore
attribute [local go_sem] max2_int min2_int max_two min_two max_three min_three max_four min_four   -- for this text's walks alone
set_option linter.unusedVariables false
set_option linter.unusedSimpArgs false
def coamingref00_Tenants.l0 : Nat → List (S42) → Int → Option (Bool)
 | 0, _, _ => none
 | k + 1, x0, x3 => if x3 < (x0.length : Int) then (if 0 ≤ x3 then (if (((rd_T42 x0 x3).f1).length : Int) > 200 then (some false) else (if (((rd_T42 x0 x3).f4).length : Int) > 50 then (some false) else (coamingref00_Tenants.l0 k x0 (wrap64 (x3 + 1))))) else (none)) else (some true)
def coamingref00_Tenants.f (k : Nat) (l0 : List (S42)) : Option (Bool) := if (l0.length : Int) > 70 then (some false) else (coamingref00_Tenants.l0 k l0 0)
set_option maxHeartbeats 8000000 in
set_option maxRecDepth 100000 in
theorem coamingref00_Tenants.calls (k : Nat) (A0 : Option Addr) (c0 : Nat) (l0 : List (S42)) (r : Bool) (w : World) (hr0 : Kd.C k42 w A0 l0.length l0) (hc0 : l0.length ≤ c0) (h : coamingref00_Tenants.f k l0 = some r) :
  Calls Tryd.prog 17 #[.slice A0 l0.length c0] w fun e w' => e = .returned (.bool r) ∧ Drawn0 w w' := by
 have HR0 := Aside0.mk hr0
 have HC0 := Aside0.mk hc0
 clear hr0 hc0
 have H : (if (l0.length : Int) > 70 then (some false) else (coamingref00_Tenants.l0 k l0 0)) = some r := h
 clear h
 by_cases c2 : (l0.length : Int) > 70
 ·rw [if_pos c2] at H
  have c2b0 : decide (70 < (l0.length : Int)) = true := decide_eq_true c2
  have c2b1 : decide (70 < l0.length) = true := decide_eq_true (by omega)
  clear c2
  obtain rfl := Option.some.inj H
  go_enter Tryd.func17, Tryd.ntmps17
  go_wp2
  go_ret
  exact ⟨by first | rfl | (simp; done) | (simp [*]; done), by repeat (first | exact Drawn0.refl _ | apply Drawn0.step)⟩
 ·rw [if_neg c2] at H
  have c2b0 : decide (70 < (l0.length : Int)) = false := decide_eq_false c2
  have c2b1 : decide (70 < l0.length) = false := decide_eq_false (by omega)
  clear c2
  have H' := Aside0.mk H
  clear H
  go_enter Tryd.func17, Tryd.ntmps17
  go_wp2
  go_loopg [3] k (fun kq v3 w' => ∃ (x3_1 : Int), v3 = .int .i64 x3_1 ∧ Aside0 (coamingref00_Tenants.l0 kq l0 x3_1 = some r) ∧ Aside0 (kq ≤ k) ∧ Drawn0 w w')
  case atStart => exact ⟨(0), (by first | rfl | (simp; done) | (simp [*]; done)), H', ⟨Nat.le_refl _⟩, by repeat (first | exact Drawn0.refl _ | apply Drawn0.step)⟩
  case round =>
   clear H'
   try clear c1
   try clear c2
   try clear c2b0
   try clear c2b1
   try clear p2
   obtain ⟨x3_1, rfl, HA, HK1, ⟨m1, rfl⟩⟩ := hrel
   cases gk with
   | zero => exact absurd HA.out (by simp [coamingref00_Tenants.l0])
   | succ k1 =>
    have H := HA.out
    clear HA
    simp only [coamingref00_Tenants.l0] at H
    by_cases c3 : x3_1 < (l0.length : Int)
    ·rw [if_pos c3] at H
     have c3b0 : decide (x3_1 < (l0.length : Int)) = true := decide_eq_true c3
     clear c3
     by_cases c4 : 0 ≤ x3_1
     ·rw [if_pos c4] at H
      have c4b0 : decide (0 ≤ x3_1) = true := decide_eq_true c4
      clear c4
      by_cases c5 : (((rd_T42 l0 x3_1).f1).length : Int) > 200
      ·rw [if_pos c5] at H
       have c5b0 : decide (200 < (((rd_T42 l0 x3_1).f1).length : Int)) = true := decide_eq_true c5
       have c5b1 : decide (200 < ((rd_T42 l0 x3_1).f1).length) = true := decide_eq_true (by omega)
       clear c5
       obtain rfl := Option.some.inj H
       have p289 : 0 ≤ (x3_1 : Int) := of_decide_eq_true (by first | (with_reducible assumption) | assumption)
       have q289 : x3_1 < (l0.length : Int) := of_decide_eq_true (by first | (with_reducible assumption) | assumption)
       obtain ⟨ad289, A289_1, c289_1, A289_4, c289_4, e289, hx289_0, hx289_1, hx289_2, hx289_3, hx289_4, hl289_1, hi289_1, hl289_4, hi289_4⟩ := at_T42 HR0.out x3_1 p289 q289
       cases e289
       have HR289_1 := Aside0.mk hi289_1
       have HC289_1 := Aside0.mk hl289_1
       clear hi289_1 hl289_1
       have HR289_4 := Aside0.mk hi289_4
       have HC289_4 := Aside0.mk hl289_4
       clear hi289_4 hl289_4
       replace p289 := eq_true p289
       replace q289 := eq_true q289
       go_wp2
       go_ret
       exact ⟨by first | rfl | (simp; done) | (simp [*]; done), by repeat (first | exact Drawn0.refl _ | apply Drawn0.step)⟩
      ·rw [if_neg c5] at H
       have c5b0 : decide (200 < (((rd_T42 l0 x3_1).f1).length : Int)) = false := decide_eq_false c5
       have c5b1 : decide (200 < ((rd_T42 l0 x3_1).f1).length) = false := decide_eq_false (by omega)
       clear c5
       by_cases c6 : (((rd_T42 l0 x3_1).f4).length : Int) > 50
       ·rw [if_pos c6] at H
        have c6b0 : decide (50 < (((rd_T42 l0 x3_1).f4).length : Int)) = true := decide_eq_true c6
        have c6b1 : decide (50 < ((rd_T42 l0 x3_1).f4).length) = true := decide_eq_true (by omega)
        clear c6
        obtain rfl := Option.some.inj H
        have p289 : 0 ≤ (x3_1 : Int) := of_decide_eq_true (by first | (with_reducible assumption) | assumption)
        have q289 : x3_1 < (l0.length : Int) := of_decide_eq_true (by first | (with_reducible assumption) | assumption)
        obtain ⟨ad289, A289_1, c289_1, A289_4, c289_4, e289, hx289_0, hx289_1, hx289_2, hx289_3, hx289_4, hl289_1, hi289_1, hl289_4, hi289_4⟩ := at_T42 HR0.out x3_1 p289 q289
        cases e289
        have HR289_1 := Aside0.mk hi289_1
        have HC289_1 := Aside0.mk hl289_1
        clear hi289_1 hl289_1
        have HR289_4 := Aside0.mk hi289_4
        have HC289_4 := Aside0.mk hl289_4
        clear hi289_4 hl289_4
        replace p289 := eq_true p289
        replace q289 := eq_true q289
        have p290 : 0 ≤ (x3_1 : Int) := of_decide_eq_true (by first | (with_reducible assumption) | assumption)
        have q290 : x3_1 < (l0.length : Int) := of_decide_eq_true (by first | (with_reducible assumption) | assumption)
        obtain ⟨ad290, A290_1, c290_1, A290_4, c290_4, e290, hx290_0, hx290_1, hx290_2, hx290_3, hx290_4, hl290_1, hi290_1, hl290_4, hi290_4⟩ := at_T42 HR0.out x3_1 p290 q290
        obtain rfl : ad289 = ad290 := (by injection e290)
        have HR290_1 := Aside0.mk hi290_1
        have HC290_1 := Aside0.mk hl290_1
        clear hi290_1 hl290_1
        have HR290_4 := Aside0.mk hi290_4
        have HC290_4 := Aside0.mk hl290_4
        clear hi290_4 hl290_4
        replace p290 := eq_true p290
        replace q290 := eq_true q290
        have ea_ := Option.some.inj (hx289_1.symm.trans hx290_1)
        injection ea_ with ea_ en_ ec_
        subst ea_
        subst ec_
        clear en_
        have ea_ := Option.some.inj (hx289_4.symm.trans hx290_4)
        injection ea_ with ea_ en_ ec_
        subst ea_
        subst ec_
        clear en_
        go_wp2
        go_ret
        exact ⟨by first | rfl | (simp; done) | (simp [*]; done), by repeat (first | exact Drawn0.refl _ | apply Drawn0.step)⟩
       ·rw [if_neg c6] at H
        have c6b0 : decide (50 < (((rd_T42 l0 x3_1).f4).length : Int)) = false := decide_eq_false c6
        have c6b1 : decide (50 < ((rd_T42 l0 x3_1).f4).length) = false := decide_eq_false (by omega)
        clear c6
        have H' := Aside0.mk H
        clear H
        have p289 : 0 ≤ (x3_1 : Int) := of_decide_eq_true (by first | (with_reducible assumption) | assumption)
        have q289 : x3_1 < (l0.length : Int) := of_decide_eq_true (by first | (with_reducible assumption) | assumption)
        obtain ⟨ad289, A289_1, c289_1, A289_4, c289_4, e289, hx289_0, hx289_1, hx289_2, hx289_3, hx289_4, hl289_1, hi289_1, hl289_4, hi289_4⟩ := at_T42 HR0.out x3_1 p289 q289
        cases e289
        have HR289_1 := Aside0.mk hi289_1
        have HC289_1 := Aside0.mk hl289_1
        clear hi289_1 hl289_1
        have HR289_4 := Aside0.mk hi289_4
        have HC289_4 := Aside0.mk hl289_4
        clear hi289_4 hl289_4
        replace p289 := eq_true p289
        replace q289 := eq_true q289
        have p290 : 0 ≤ (x3_1 : Int) := of_decide_eq_true (by first | (with_reducible assumption) | assumption)
        have q290 : x3_1 < (l0.length : Int) := of_decide_eq_true (by first | (with_reducible assumption) | assumption)
        obtain ⟨ad290, A290_1, c290_1, A290_4, c290_4, e290, hx290_0, hx290_1, hx290_2, hx290_3, hx290_4, hl290_1, hi290_1, hl290_4, hi290_4⟩ := at_T42 HR0.out x3_1 p290 q290
        obtain rfl : ad289 = ad290 := (by injection e290)
        have HR290_1 := Aside0.mk hi290_1
        have HC290_1 := Aside0.mk hl290_1
        clear hi290_1 hl290_1
        have HR290_4 := Aside0.mk hi290_4
        have HC290_4 := Aside0.mk hl290_4
        clear hi290_4 hl290_4
        replace p290 := eq_true p290
        replace q290 := eq_true q290
        have ea_ := Option.some.inj (hx289_1.symm.trans hx290_1)
        injection ea_ with ea_ en_ ec_
        subst ea_
        subst ec_
        clear en_
        have ea_ := Option.some.inj (hx289_4.symm.trans hx290_4)
        injection ea_ with ea_ en_ ec_
        subst ea_
        subst ec_
        clear en_
        go_wp2
        go_roundg k1
        case measure => have := HK1.out; omega
        case rel => exact ⟨(wrap64 (x3_1 + 1)), (by first | rfl | (simp; done) | (simp [*]; done)), H', ⟨by have := HK1.out; omega⟩, by repeat (first | exact Drawn0.refl _ | apply Drawn0.step)⟩
     ·rw [if_neg c4] at H
      exact absurd H (by simp)
    ·rw [if_neg c3] at H
     have c3b0 : decide (x3_1 < (l0.length : Int)) = false := decide_eq_false c3
     clear c3
     obtain rfl := Option.some.inj H
     go_wp2
     go_ret
     exact ⟨by first | rfl | (simp; done) | (simp [*]; done), by repeat (first | exact Drawn0.refl _ | apply Drawn0.step)⟩
def coamingref00_LentBytes.f (l0 : List Int) : Option (List Int) := if ([] : List Int).length + l0.length < 140737488355328 then (some (([] : List Int) ++ l0)) else (none)
set_option maxHeartbeats 8000000 in
set_option maxRecDepth 100000 in
theorem coamingref00_LentBytes.calls (A0 : Option Addr) (c0 : Nat) (l0 : List Int) (r : List Int) (w : World) (hr0 : Kd.C (Kd.int .u8) w A0 l0.length l0) (hc0 : l0.length ≤ c0) (h : coamingref00_LentBytes.f l0 = some r) :
  Calls Tryd.prog 37 #[.slice A0 l0.length c0] w fun e w' => ∃ v0_ : Value, e = .returned (v0_) ∧ Kd.R (Kd.int .u8) 5 w' w.heap.size (fun _ => True) v0_ r ∧ Below w.heap.size w w' := by
 have HR0 := Aside0.mk hr0
 have HC0 := Aside0.mk hc0
 clear hr0 hc0
 have HB := Aside0.mk (Below.refl w.heap.size w)
 have H : (if ([] : List Int).length + l0.length < 140737488355328 then (some (([] : List Int) ++ l0)) else (none)) = some r := h
 clear h
 by_cases c2 : ([] : List Int).length + l0.length < 140737488355328
 ·rw [if_pos c2] at H
  have LMc2 := Aside0.mk c2
  clear c2
  obtain ⟨y291, hy291⟩ : ∃ y_ : List Int, y_ = (([] : List Int) ++ l0) := ⟨_, rfl⟩
  replace H : (some y291) = some r := by first | (rw [hy291]; with_reducible exact H) | (have H2_ := (Option.bind_some _ _).symm.trans H; rw [hy291]; with_reducible exact H2_) | (have H2_ := (Option.bind_some _ _).symm.trans H; with_reducible exact H2_) | with_reducible exact H | (rw [hy291]; exact H) | exact H
  have Ny291 := Aside0.mk hy291
  clear hy291
  obtain rfl := Option.some.inj H
  go_enter Tryd.func37, Tryd.ntmps37
  go_wp2_with (first | ((with_reducible refine gate_builtin (b := .append) (xs := #[.tmp 4, .tmp 5]) rfl ?_); at_builtin; refine Kd.R_append_rows (Kd.int .u8) (w0 := w) w.heap.size rfl (.tmp 4) (.tmp 5) 22 5 (.int .u8 0) 1 rfl Tryd.underlying22 info5 rfl (by decide) (by omega) (.slice none 0 0) ([] : List Int) l0 _ _ _ (fun _ => True) (fun _ => False) rfl rfl ?aO ?aR (fun _ _ h => h) (fun _ h => h.elim) ?aF ?aB ?aS ?aL ?_; (case aR => repeat (first | exact HR0.out | (with_reducible refine Kd.C_alloc ?_ _) | (with_reducible refine Kd.C_drewN ?_ _) | (with_reducible refine Kd.C_drew ?_))); (case aB => exact (by repeat (first | (with_reducible first | exact HB.out | apply below_alloc | apply pw_below_drewN | apply below_drew1) | exact HB.out))); (case aF => exact (fun _ _ => trivial)); (case aO => exact ((Kd.R_nil _ _ _ _ (fun _ => True)))); (case aS => exact (below_size (by repeat (first | (with_reducible first | exact HB.out | apply below_alloc | apply pw_below_drewN | apply below_drew1) | exact HB.out)))); (case aL => have := LMc2.out; omega); intro v292 w3 ho hb hg hat; rw [← Ny291.out] at ho; have n0_ := Aside0.mk (hb); have n1_ := Aside0.mk (ho); clear HB; have HB := n0_; have HO293 := n1_; clear n0_ n1_; clear ho hb hg hat))
  go_ret
  exact ⟨_, by first | rfl | (simp [errW_none, errW_some] <;> rfl) | (simp [*, errW_none, errW_some] <;> rfl), by (with_reducible repeat (first | apply Kd.R_alloc | apply Kd.R_drewN | apply Kd.R_drew)); exact HO293.out, by repeat (first | (with_reducible first | exact HB.out | apply below_alloc | apply pw_below_drewN | apply below_drew1) | exact HB.out)⟩
 ·rw [if_neg c2] at H
  exact absurd H (by simp)
def coamingref00_LentTenants.l0 : Nat → List (S42) → List (S42) → Int → Option ((List (S42)))
 | 0, _, _, _ => none
 | k + 1, x0, x3, x4 => if x4 < (x0.length : Int) then (if 0 ≤ x4 then ((coamingref00_LentBytes.f ((rd_T42 x0 x4).f1)).bind fun t296 => (if ([] : List Int).length + ((rd_T42 x0 x4).f4).length < 35184372088832 then (if x3.length < 1954687338268 then (coamingref00_LentTenants.l0 k x0 (x3 ++ [(⟨(rd_T42 x0 x4).f0, t296, (rd_T42 x0 x4).f2, (rd_T42 x0 x4).f3, (([] : List Int) ++ ((rd_T42 x0 x4).f4))⟩ : S42)]) (wrap64 (x4 + 1))) else (none)) else (none))) else (none)) else (some x3)
def coamingref00_LentTenants.f (k : Nat) (l0 : List (S42)) : Option ((List (S42))) := coamingref00_LentTenants.l0 k l0 ([] : List (S42)) 0
set_option maxHeartbeats 8000000 in
set_option maxRecDepth 100000 in
theorem coamingref00_LentTenants.calls (k : Nat) (A0 : Option Addr) (c0 : Nat) (l0 : List (S42)) (r : List (S42)) (w : World) (hr0 : Kd.C k42 w A0 l0.length l0) (hc0 : l0.length ≤ c0) (h : coamingref00_LentTenants.f k l0 = some r) :
  Calls Tryd.prog 18 #[.slice A0 l0.length c0] w fun e w' => ∃ v0_ : Value, e = .returned (v0_) ∧ Kd.S k42 42 w' w.heap.size (fun _ => True) v0_ r ∧ Below w.heap.size w w' := by
 have hu42 := Tryd.underlying42
 have HR0 := Aside0.mk hr0
 have HC0 := Aside0.mk hc0
 clear hr0 hc0
 have HB := Aside0.mk (Below.refl w.heap.size w)
 have H : (coamingref00_LentTenants.l0 k l0 ([] : List (S42)) 0) = some r := h
 clear h
 have H' := Aside0.mk H
 clear H
 go_enter Tryd.func18, Tryd.ntmps18
 go_wp2
 go_loopg [3, 4] k (fun kq v3 v4 w' => ∃ (x3_1 : List (S42)) (x4_1 : Int), v4 = .int .i64 x4_1 ∧ Aside0 (coamingref00_LentTenants.l0 kq l0 x3_1 x4_1 = some r) ∧ Aside0 (kq ≤ k) ∧ Aside0 (Kd.S k42 42 w' w.heap.size (fun _ => True) v3 x3_1) ∧ Aside0 (Below w.heap.size w w'))
 case atStart => exact ⟨(([] : List (S42))), (0), (by first | rfl | (simp; done) | (simp [*]; done)), H', ⟨Nat.le_refl _⟩, ⟨by first | exact Kd.S_nil _ _ _ _ _ | exact Kd.N_nil _ _ _ _ _ | exact Kd.V_nil _ _ _ _ _ | exact Kd.Q_nil _ _ _ _ _ | exact Kd.R_nil _ _ _ _ _⟩, ⟨by repeat (first | (with_reducible first | exact HB.out | apply below_alloc | apply pw_below_drewN | apply below_drew1) | exact HB.out)⟩⟩
 case round =>
  clear H'
  try clear c1
  obtain ⟨x3_1, x4_1, rfl, HA, HK1, HO_3, HB⟩ := hrel
  cases gk with
  | zero => exact absurd HA.out (by simp [coamingref00_LentTenants.l0])
  | succ k1 =>
   have H := HA.out
   clear HA
   simp only [coamingref00_LentTenants.l0] at H
   by_cases c2 : x4_1 < (l0.length : Int)
   ·rw [if_pos c2] at H
    have c2b0 : decide (x4_1 < (l0.length : Int)) = true := decide_eq_true c2
    clear c2
    by_cases c3 : 0 ≤ x4_1
    ·rw [if_pos c3] at H
     have c3b0 : decide (0 ≤ x4_1) = true := decide_eq_true c3
     clear c3
     replace H := Option.bind_eq_some_iff.mp H
     obtain ⟨t296, A40, H⟩ := H
     replace H : (if ([] : List Int).length + ((rd_T42 l0 x4_1).f4).length < 35184372088832 then (if x3_1.length < 1954687338268 then (coamingref00_LentTenants.l0 k1 l0 (x3_1 ++ [(⟨(rd_T42 l0 x4_1).f0, t296, (rd_T42 l0 x4_1).f2, (rd_T42 l0 x4_1).f3, (([] : List Int) ++ ((rd_T42 l0 x4_1).f4))⟩ : S42)]) (wrap64 (x4_1 + 1))) else (none)) else (none)) = some r := H
     have A4 := Aside0.mk A40
     clear A40
     by_cases c5 : ([] : List Int).length + ((rd_T42 l0 x4_1).f4).length < 35184372088832
     ·rw [if_pos c5] at H
      have LMc5 := Aside0.mk c5
      clear c5
      obtain ⟨y299, hy299⟩ : ∃ y_ : List Int, y_ = (([] : List Int) ++ ((rd_T42 l0 x4_1).f4)) := ⟨_, rfl⟩
      replace H : (if x3_1.length < 1954687338268 then (coamingref00_LentTenants.l0 k1 l0 (x3_1 ++ [(⟨(rd_T42 l0 x4_1).f0, t296, (rd_T42 l0 x4_1).f2, (rd_T42 l0 x4_1).f3, y299⟩ : S42)]) (wrap64 (x4_1 + 1))) else (none)) = some r := by first | (rw [hy299]; with_reducible exact H) | (have H2_ := (Option.bind_some _ _).symm.trans H; rw [hy299]; with_reducible exact H2_) | (have H2_ := (Option.bind_some _ _).symm.trans H; with_reducible exact H2_) | with_reducible exact H | (rw [hy299]; exact H) | exact H
      have Ny299 := Aside0.mk hy299
      clear hy299
      by_cases c6 : x3_1.length < 1954687338268
      ·rw [if_pos c6] at H
       have LMc6 := Aside0.mk c6
       clear c6
       obtain ⟨y302, hy302⟩ : ∃ y_ : List (S42), y_ = (x3_1 ++ [(⟨(rd_T42 l0 x4_1).f0, t296, (rd_T42 l0 x4_1).f2, (rd_T42 l0 x4_1).f3, y299⟩ : S42)]) := ⟨_, rfl⟩
       replace H : (coamingref00_LentTenants.l0 k1 l0 y302 (wrap64 (x4_1 + 1))) = some r := by first | (rw [hy302]; with_reducible exact H) | (have H2_ := (Option.bind_some _ _).symm.trans H; rw [hy302]; with_reducible exact H2_) | (have H2_ := (Option.bind_some _ _).symm.trans H; with_reducible exact H2_) | with_reducible exact H | (rw [hy302]; exact H) | exact H
       have Ny302 := Aside0.mk hy302
       clear hy302
       have H' := Aside0.mk H
       clear H
       have p294 : 0 ≤ (x4_1 : Int) := of_decide_eq_true (by first | (with_reducible assumption) | assumption)
       have q294 : x4_1 < (l0.length : Int) := of_decide_eq_true (by first | (with_reducible assumption) | assumption)
       obtain ⟨ad294, A294_1, c294_1, A294_4, c294_4, e294, hx294_0, hx294_1, hx294_2, hx294_3, hx294_4, hl294_1, hi294_1, hl294_4, hi294_4⟩ := at_T42 HR0.out x4_1 p294 q294
       cases e294
       replace hx294_0 := (HB.out.cell (World.block_lt_of_cell? w _ hx294_0)).trans hx294_0
       replace hx294_1 := (HB.out.cell (World.block_lt_of_cell? w _ hx294_1)).trans hx294_1
       replace hx294_2 := (HB.out.cell (World.block_lt_of_cell? w _ hx294_2)).trans hx294_2
       replace hx294_3 := (HB.out.cell (World.block_lt_of_cell? w _ hx294_3)).trans hx294_3
       replace hx294_4 := (HB.out.cell (World.block_lt_of_cell? w _ hx294_4)).trans hx294_4
       have HR294_1 := Aside0.mk hi294_1
       have HC294_1 := Aside0.mk hl294_1
       clear hi294_1 hl294_1
       have HR294_4 := Aside0.mk hi294_4
       have HC294_4 := Aside0.mk hl294_4
       clear hi294_4 hl294_4
       replace p294 := eq_true p294
       replace q294 := eq_true q294
       go_wp2_with (first | ((with_reducible refine gate_dst (N := 5) rfl ?_); refine box_event ?hg (N := 5) ?hd (cs := #[.int .u32 0, .slice none 0 0, .int .u64 0, .int .u64 0, .slice none 0 0]) (t := 42) ?hr ?_; (case hd => rfl); (case hg => rfl); (case hr => first | (go_simp; done) | (go_simp; rfl) | (go_simp; simp only [IntKind.wrap_u32, Int.emod_add_emod, Int.add_emod_emod])); intro gb295 hg w7 hbox hb; have n0_ := Aside0.mk (Kd.S_below (Kd.S_elderB (by (with_reducible repeat (first | apply Kd.S_alloc | apply Kd.S_drewN | apply Kd.S_drew)); exact HO_3.out) gb295 (Nat.le_of_eq hg.symm)) hb); have n1_ := Aside0.mk (below_step (by repeat (first | (with_reducible first | exact HB.out | apply below_alloc | apply pw_below_drewN | apply below_drew1) | exact HB.out)) hb); have n2_ := Aside0.mk (hbox); have n3_ := Aside0.mk ((by rw [hg]; exact (below_size (by repeat (first | (with_reducible first | exact HB.out | apply below_alloc | apply pw_below_drewN | apply below_drew1) | exact HB.out))) : w.heap.size ≤ gb295)); have n4_ := Aside0.mk ((by rw [hg]; exact (below_size (by repeat (first | (with_reducible first | exact HB.out | apply below_alloc | apply pw_below_drewN | apply below_drew1) | exact HB.out))) : w.heap.size ≤ gb295)); clear HO_3; clear HB; have HO_3 := n0_; have HB := n1_; have BK295 := n2_; have GW295 := n3_; have GE295 := n4_; clear n0_ n1_ n2_ n3_ n4_; clear hb hbox hg; have hcz8_0 : w7.cell? ⟨gb295, 0, none⟩ = some (.int .u32 0) := (blk_cell BK295.out 0).trans rfl; have hcz8_1 : w7.cell? ⟨gb295, 1, none⟩ = some (.slice none 0 0) := (blk_cell BK295.out 1).trans rfl; have hcz8_2 : w7.cell? ⟨gb295, 2, none⟩ = some (.int .u64 0) := (blk_cell BK295.out 2).trans rfl; have hcz8_3 : w7.cell? ⟨gb295, 3, none⟩ = some (.int .u64 0) := (blk_cell BK295.out 3).trans rfl; have hcz8_4 : w7.cell? ⟨gb295, 4, none⟩ = some (.slice none 0 0) := (blk_cell BK295.out 4).trans rfl; have hfz8_0 := blk_frozen BK295.out 0; have hfz8_1 := blk_frozen BK295.out 1; have hfz8_2 := blk_frozen BK295.out 2; have hfz8_3 := blk_frozen BK295.out 3; have hfz8_4 := blk_frozen BK295.out 4) | ((with_reducible refine gate_callee (f := 37) rfl ?_); refine goesL_ (some 19) rfl rfl Tryd.func37 (by kernel_rfl) rfl #[.slice A294_1 ((rd_T42 l0 x4_1).f1).length c294_1] rfl (by (try simp only [List.map_toArray, List.map_cons, List.map_nil]); first | done | rfl | (simp only [List.length_drop, List.length_take]; rfl) | (simp only [List.length_drop, List.length_take]; (repeat rw [Nat.min_eq_left (by simp only [eq_iff_iff, iff_true] at *; omega)]); rfl)) ?_; (with_reducible refine (coamingref00_LentBytes.calls _ _ ((rd_T42 l0 x4_1).f1) t296 _ ?side1 ?side2 A4.out).mono ?_); (case side1 => exact Kd.C_below HR294_1.out (by repeat (first | (with_reducible first | exact HB.out | apply below_alloc | apply pw_below_drewN | apply below_drew1 | refine below_set ?_ GE295.out) | exact HB.out))); (case side2 => exact HC294_1.out); rintro e w9 ⟨v297, rfl, ho0, hb⟩; refine ⟨_, rfl, ?_⟩; have n0_ := Aside0.mk (Kd.S_elder' (by (with_reducible repeat (first | apply Kd.S_alloc | apply Kd.S_drewN | apply Kd.S_drew)); exact (Kd.S_mono (Kd.S_far (p := ⟨gb295, 4, none⟩) (Kd.S_far (p := ⟨gb295, 3, none⟩) (Kd.S_far (p := ⟨gb295, 2, none⟩) (Kd.S_far (p := ⟨gb295, 1, none⟩) (Kd.S_far (p := ⟨gb295, 0, none⟩) (Kd.S_mono HO_3.out (fun k_ hk => (⟨hk, hk.2⟩ : _ ∧ k_ ≠ gb295))) (fun _ hk => hk.2) (.int .u32 ((rd_T42 l0 x4_1).f0))) (fun _ hk => hk.2) (.slice A294_1 ((rd_T42 l0 x4_1).f1).length c294_1)) (fun _ hk => hk.2) (.int .u64 ((rd_T42 l0 x4_1).f2))) (fun _ hk => hk.2) (.int .u64 ((rd_T42 l0 x4_1).f3))) (fun _ hk => hk.2) (.slice A294_4 ((rd_T42 l0 x4_1).f4).length c294_4)) (fun _ h_ => h_.1))) (Kd.R_base ho0) hb); have n1_ := Aside0.mk (Kd.R_lower ho0 (below_size (by repeat (first | (with_reducible first | exact HB.out | apply below_alloc | apply pw_below_drewN | apply below_drew1 | refine below_set ?_ GE295.out) | exact HB.out)))); have n2_ := Aside0.mk (blk_below (g := gb295) (o := .cells #[.int .u32 ((rd_T42 l0 x4_1).f0), .slice A294_1 ((rd_T42 l0 x4_1).f1).length c294_1, .int .u64 ((rd_T42 l0 x4_1).f2), .int .u64 ((rd_T42 l0 x4_1).f3), .slice A294_4 ((rd_T42 l0 x4_1).f4).length c294_4] 42 (0, 0)) (by (with_reducible repeat (first | refine blk_drewN ?_ _ | refine blk_drew ?_ | refine blk_alloc ?_ _)); refine blk_put (cs := #[.int .u32 ((rd_T42 l0 x4_1).f0), .slice A294_1 ((rd_T42 l0 x4_1).f1).length c294_1, .int .u64 ((rd_T42 l0 x4_1).f2), .int .u64 ((rd_T42 l0 x4_1).f3), .slice none 0 0]) ?_ 4 _ rfl; (with_reducible repeat (first | refine blk_drewN ?_ _ | refine blk_drew ?_ | refine blk_alloc ?_ _)); refine blk_put (cs := #[.int .u32 ((rd_T42 l0 x4_1).f0), .slice A294_1 ((rd_T42 l0 x4_1).f1).length c294_1, .int .u64 ((rd_T42 l0 x4_1).f2), .int .u64 0, .slice none 0 0]) ?_ 3 _ rfl; (with_reducible repeat (first | refine blk_drewN ?_ _ | refine blk_drew ?_ | refine blk_alloc ?_ _)); refine blk_put (cs := #[.int .u32 ((rd_T42 l0 x4_1).f0), .slice A294_1 ((rd_T42 l0 x4_1).f1).length c294_1, .int .u64 0, .int .u64 0, .slice none 0 0]) ?_ 2 _ rfl; (with_reducible repeat (first | refine blk_drewN ?_ _ | refine blk_drew ?_ | refine blk_alloc ?_ _)); refine blk_put (cs := #[.int .u32 ((rd_T42 l0 x4_1).f0), .slice none 0 0, .int .u64 0, .int .u64 0, .slice none 0 0]) ?_ 1 _ rfl; (with_reducible repeat (first | refine blk_drewN ?_ _ | refine blk_drew ?_ | refine blk_alloc ?_ _)); refine blk_put (cs := #[.int .u32 0, .slice none 0 0, .int .u64 0, .int .u64 0, .slice none 0 0]) ?_ 0 _ rfl; (with_reducible repeat (first | refine blk_drewN ?_ _ | refine blk_drew ?_ | refine blk_alloc ?_ _)); exact BK295.out) hb); have n3_ := Aside0.mk (below_step (by repeat (first | (with_reducible first | exact HB.out | apply below_alloc | apply pw_below_drewN | apply below_drew1 | refine below_set ?_ GE295.out) | exact HB.out)) hb); clear HO_3; clear BK295; clear HB; have HO_3 := n0_; have HO298 := n1_; have BK295 := n2_; have HB := n3_; clear n0_ n1_ n2_ n3_; (try clear hb); (try clear hb2); (try clear hk); (try clear hi); (try clear ho0); obtain ⟨Ao10, co10, eo10⟩ := Kd.R_slice HO298.out; subst eo10; have hcz11_0 : w9.cell? ⟨gb295, 0, none⟩ = some (.int .u32 ((rd_T42 l0 x4_1).f0)) := (blk_cell BK295.out 0).trans rfl; have hcz11_1 : w9.cell? ⟨gb295, 1, none⟩ = some (.slice A294_1 ((rd_T42 l0 x4_1).f1).length c294_1) := (blk_cell BK295.out 1).trans rfl; have hcz11_2 : w9.cell? ⟨gb295, 2, none⟩ = some (.int .u64 ((rd_T42 l0 x4_1).f2)) := (blk_cell BK295.out 2).trans rfl; have hcz11_3 : w9.cell? ⟨gb295, 3, none⟩ = some (.int .u64 ((rd_T42 l0 x4_1).f3)) := (blk_cell BK295.out 3).trans rfl; have hcz11_4 : w9.cell? ⟨gb295, 4, none⟩ = some (.slice A294_4 ((rd_T42 l0 x4_1).f4).length c294_4) := (blk_cell BK295.out 4).trans rfl; have hfz11_0 := blk_frozen BK295.out 0; have hfz11_1 := blk_frozen BK295.out 1; have hfz11_2 := blk_frozen BK295.out 2; have hfz11_3 := blk_frozen BK295.out 3; have hfz11_4 := blk_frozen BK295.out 4) | ((with_reducible refine gate_builtin (b := .append) (xs := #[.tmp 21, .tmp 23]) rfl ?_); at_builtin; refine Kd.R_append_rows (Kd.int .u32) (w0 := w) w.heap.size rfl (.tmp 21) (.tmp 23) 37 23 (.int .u32 0) 4 rfl Tryd.underlying37 info23 rfl (by decide) (by omega) (.slice none 0 0) ([] : List Int) ((rd_T42 l0 x4_1).f4) _ _ _ (fun _ => True) (fun _ => False) rfl rfl ?aO ?aR (fun _ _ h => h) (fun _ h => h.elim) ?aF ?aB ?aS ?aL ?_; (case aR => exact Kd.C_below HR294_4.out (by repeat (first | (with_reducible first | exact HB.out | apply below_alloc | apply pw_below_drewN | apply below_drew1 | refine below_set ?_ GE295.out) | exact HB.out))); (case aB => exact (by repeat (first | (with_reducible first | exact HB.out | apply below_alloc | apply pw_below_drewN | apply below_drew1 | refine below_set ?_ GE295.out) | exact HB.out))); (case aF => exact (fun _ _ => trivial)); (case aO => exact ((Kd.R_nil _ _ _ _ (fun _ => True)))); (case aS => exact (below_size (by repeat (first | (with_reducible first | exact HB.out | apply below_alloc | apply pw_below_drewN | apply below_drew1 | refine below_set ?_ GE295.out) | exact HB.out)))); (case aL => have := LMc5.out; omega); intro v300 w12 ho hb hg hat; rw [← Ny299.out] at ho; have n0_ := Aside0.mk (Kd.S_after (Kd.S_apart_nil (by (with_reducible repeat (first | apply Kd.S_alloc | apply Kd.S_drewN | apply Kd.S_drew)); exact (Kd.S_mono (Kd.S_far (p := ⟨gb295, 1, none⟩) (Kd.S_mono HO_3.out (fun k_ hk => (⟨hk, hk.1.2⟩ : _ ∧ k_ ≠ gb295))) (fun _ hk => hk.2) (.slice Ao10 t296.length co10)) (fun _ h_ => h_.1)))) hg hat); have n1_ := Aside0.mk (blk_grown (g := gb295) (o := .cells #[.int .u32 ((rd_T42 l0 x4_1).f0), .slice Ao10 t296.length co10, .int .u64 ((rd_T42 l0 x4_1).f2), .int .u64 ((rd_T42 l0 x4_1).f3), .slice A294_4 ((rd_T42 l0 x4_1).f4).length c294_4] 42 (0, 0)) (by (with_reducible repeat (first | refine blk_drewN ?_ _ | refine blk_drew ?_ | refine blk_alloc ?_ _)); refine blk_put (cs := #[.int .u32 ((rd_T42 l0 x4_1).f0), .slice A294_1 ((rd_T42 l0 x4_1).f1).length c294_1, .int .u64 ((rd_T42 l0 x4_1).f2), .int .u64 ((rd_T42 l0 x4_1).f3), .slice A294_4 ((rd_T42 l0 x4_1).f4).length c294_4]) ?_ 1 _ rfl; (with_reducible repeat (first | refine blk_drewN ?_ _ | refine blk_drew ?_ | refine blk_alloc ?_ _)); exact BK295.out) hg (by simp [Value.ownBlock])); have n2_ := Aside0.mk (Kd.R_grown (by (with_reducible repeat (first | apply Kd.R_alloc | apply Kd.R_drewN | apply Kd.R_drew)); exact (Kd.R_mono (Kd.R_far (p := ⟨gb295, 1, none⟩) (Kd.R_types HO298.out BK295.out (by decide)) (fun _ hk => hk.2) (.slice Ao10 t296.length co10)) (fun _ h_ => h_.1))) hg (fun _ _ => by simp [Value.ownBlock])); have n3_ := Aside0.mk (hb); have n4_ := Aside0.mk (ho); clear HO_3; clear BK295; clear HO298; clear HB; have HO_3 := n0_; have BK295 := n1_; have HO298 := n2_; have HB := n3_; have HO301 := n4_; clear n0_ n1_ n2_ n3_ n4_; clear ho hb hg hat; obtain ⟨Ao13, co13, eo13⟩ := Kd.R_slice HO301.out; subst eo13; have hcz14_0 : w12.cell? ⟨gb295, 0, none⟩ = some (.int .u32 ((rd_T42 l0 x4_1).f0)) := (blk_cell BK295.out 0).trans rfl; have hcz14_1 : w12.cell? ⟨gb295, 1, none⟩ = some (.slice Ao10 t296.length co10) := (blk_cell BK295.out 1).trans rfl; have hcz14_2 : w12.cell? ⟨gb295, 2, none⟩ = some (.int .u64 ((rd_T42 l0 x4_1).f2)) := (blk_cell BK295.out 2).trans rfl; have hcz14_3 : w12.cell? ⟨gb295, 3, none⟩ = some (.int .u64 ((rd_T42 l0 x4_1).f3)) := (blk_cell BK295.out 3).trans rfl; have hcz14_4 : w12.cell? ⟨gb295, 4, none⟩ = some (.slice A294_4 ((rd_T42 l0 x4_1).f4).length c294_4) := (blk_cell BK295.out 4).trans rfl; have hfz14_0 := blk_frozen BK295.out 0; have hfz14_1 := blk_frozen BK295.out 1; have hfz14_2 := blk_frozen BK295.out 2; have hfz14_3 := blk_frozen BK295.out 3; have hfz14_4 := blk_frozen BK295.out 4) | ((with_reducible refine gate_store (t := 37) (p := 26) rfl ?_); refine store_event (t := 37) (p := 26) (v := ?vo_w15) (w1 := (w12.setCell ⟨gb295, 4, none⟩ (.slice Ao13 y299.length co13))) ?hg ?ho ?hn ?hr ?_; (case ho => rfl); (case hg => rfl); (case hn => rfl); (case hr => first | (go_simp; done) | (go_simp; rfl) | (go_simp; simp only [IntKind.wrap_u32, Int.emod_add_emod, Int.add_emod_emod])); intro w15 hw; have n0_ : Aside0 (Kd.S k42 42 w15 w.heap.size (fun k_ => some k_ ≠ (.slice Ao10 t296.length co10 : Value).ownBlock ∧ some k_ ≠ (.slice Ao13 y299.length co13 : Value).ownBlock ∧ k_ ≠ gb295) u3 x3_1) := ⟨(by rw [hw]; exact (by (with_reducible repeat (first | apply Kd.S_alloc | apply Kd.S_drewN | apply Kd.S_drew)); exact Kd.S_mono (Kd.S_far (p := ⟨gb295, 4, none⟩) (Kd.S_mono HO_3.out (fun k_ hk => (⟨hk, hk.1.1.2⟩ : _ ∧ k_ ≠ gb295))) (fun _ hk => hk.2) (.slice Ao13 y299.length co13)) (fun _ hk => ⟨hk.1.1.2, ⟨hk.1.2, hk.1.1.1.2⟩⟩)))⟩; have n1_ : Aside0 (Kd.R (Kd.int .u8) 5 w15 w.heap.size (fun _ => True) (.slice Ao10 t296.length co10) t296) := ⟨(by rw [hw]; exact (by (with_reducible repeat (first | apply Kd.R_alloc | apply Kd.R_drewN | apply Kd.R_drew)); exact Kd.R_mono (Kd.R_far (p := ⟨gb295, 4, none⟩) (Kd.R_types HO298.out BK295.out (by decide)) (fun _ hk => hk.2) (.slice Ao13 y299.length co13)) (fun _ hk => trivial)))⟩; have n2_ : Aside0 (Kd.R (Kd.int .u32) 23 w15 w.heap.size (fun _ => True) (.slice Ao13 y299.length co13) y299) := ⟨(by rw [hw]; exact (by (with_reducible repeat (first | apply Kd.R_alloc | apply Kd.R_drewN | apply Kd.R_drew)); exact Kd.R_mono (Kd.R_far (p := ⟨gb295, 4, none⟩) (Kd.R_types HO301.out BK295.out (by decide)) (fun _ hk => hk.2) (.slice Ao13 y299.length co13)) (fun _ hk => trivial)))⟩; have n3_ : Aside0 (w15.heap[gb295]? = some (.cells #[.int .u32 ((rd_T42 l0 x4_1).f0), .slice Ao10 t296.length co10, .int .u64 ((rd_T42 l0 x4_1).f2), .int .u64 ((rd_T42 l0 x4_1).f3), .slice Ao13 y299.length co13] 42 (0, 0))) := ⟨(by rw [hw]; exact (by (with_reducible repeat (first | refine blk_drewN ?_ _ | refine blk_drew ?_ | refine blk_alloc ?_ _)); refine blk_put (cs := #[.int .u32 ((rd_T42 l0 x4_1).f0), .slice Ao10 t296.length co10, .int .u64 ((rd_T42 l0 x4_1).f2), .int .u64 ((rd_T42 l0 x4_1).f3), .slice A294_4 ((rd_T42 l0 x4_1).f4).length c294_4]) ?_ 4 _ rfl; (with_reducible repeat (first | refine blk_drewN ?_ _ | refine blk_drew ?_ | refine blk_alloc ?_ _)); exact BK295.out))⟩; have n4_ : Aside0 (Below w.heap.size w w15) := ⟨(by rw [hw]; exact (by repeat (first | (with_reducible first | exact HB.out | apply below_alloc | apply pw_below_drewN | apply below_drew1 | refine below_set ?_ GE295.out) | exact HB.out)))⟩; clear hw; clear HO_3; clear HO298; clear HO301; clear BK295; clear HB; have HO_3 := n0_; have HO298 := n1_; have HO301 := n2_; have BK295 := n3_; have HB := n4_; clear n0_ n1_ n2_ n3_ n4_; have hcz16_0 : w15.cell? ⟨gb295, 0, none⟩ = some (.int .u32 ((rd_T42 l0 x4_1).f0)) := (blk_cell BK295.out 0).trans rfl; have hcz16_1 : w15.cell? ⟨gb295, 1, none⟩ = some (.slice Ao10 t296.length co10) := (blk_cell BK295.out 1).trans rfl; have hcz16_2 : w15.cell? ⟨gb295, 2, none⟩ = some (.int .u64 ((rd_T42 l0 x4_1).f2)) := (blk_cell BK295.out 2).trans rfl; have hcz16_3 : w15.cell? ⟨gb295, 3, none⟩ = some (.int .u64 ((rd_T42 l0 x4_1).f3)) := (blk_cell BK295.out 3).trans rfl; have hcz16_4 : w15.cell? ⟨gb295, 4, none⟩ = some (.slice Ao13 y299.length co13) := (blk_cell BK295.out 4).trans rfl; have hfz16_0 := blk_frozen BK295.out 0; have hfz16_1 := blk_frozen BK295.out 1; have hfz16_2 := blk_frozen BK295.out 2; have hfz16_3 := blk_frozen BK295.out 3; have hfz16_4 := blk_frozen BK295.out 4) | ((with_reducible refine gate_builtin (b := .append) (xs := #[.tmp 27, .tmp 29]) rfl ?_); at_builtin; refine Kd.S_append k42 (w0 := w) w.heap.size rfl (.tmp 27) (.tmp 29) 43 42 (.agg #[(.int .u32 0), (.slice none 0 0), (.int .u64 0), (.int .u64 0), (.slice none 0 0)]) 72 rfl Tryd.underlying43 info42 rfl (by decide) (by omega) u3 x3_1 (⟨(rd_T42 l0 x4_1).f0, t296, (rd_T42 l0 x4_1).f2, (rd_T42 l0 x4_1).f3, y299⟩ : S42) [.int .u32 ((rd_T42 l0 x4_1).f0), .slice Ao10 t296.length co10, .int .u64 ((rd_T42 l0 x4_1).f2), .int .u64 ((rd_T42 l0 x4_1).f3), .slice Ao13 y299.length co13] (fun k_ => k_ ≠ gb295) (fun k_ => some k_ = (.slice Ao10 t296.length co10 : Value).ownBlock ∨ some k_ = (.slice Ao13 y299.length co13 : Value).ownBlock) rfl rfl ?aP (fun k_ hk_ => hk_.elim (fun h_ => ((Kd.R_mono (ok' := fun k_ => ((fun k_ => k_ ≠ gb295)) k_ ∧ some k_ ≠ (u3 : Value).ownBlock) (Kd.R_types (Kd.R_apart' (HO298.out) (Kd.S_typed HO_3.out) (by decide)) BK295.out (by decide)) (fun k_ hk => ⟨hk.2, hk.1.2⟩))).1 k_ h_.symm) (fun h_ => ((Kd.R_mono (ok' := fun k_ => ((fun k_ => k_ ≠ gb295)) k_ ∧ some k_ ≠ (u3 : Value).ownBlock) (Kd.R_types (Kd.R_apart' (HO301.out) (Kd.S_typed HO_3.out) (by decide)) BK295.out (by decide)) (fun k_ hk => ⟨hk.2, hk.1.2⟩))).1 k_ h_.symm)) ?aF ?aO ?aB ?aS ?aL ?_; (case aP => exact k42_mkM _ _ _ (⟨(rd_T42 l0 x4_1).f0, t296, (rd_T42 l0 x4_1).f2, (rd_T42 l0 x4_1).f3, y299⟩ : S42) (Kd.R_mono (Kd.R_tight rfl (Kd.R_mono (ok' := fun k_ => ((fun k_ => k_ ≠ gb295)) k_ ∧ some k_ ≠ (u3 : Value).ownBlock) (Kd.R_types (Kd.R_apart' (HO298.out) (Kd.S_typed HO_3.out) (by decide)) BK295.out (by decide)) (fun k_ hk => ⟨hk.2, hk.1.2⟩))) (fun _ h_ => Or.inl h_)) (Kd.R_mono (Kd.R_tight rfl (Kd.R_mono (ok' := fun k_ => ((fun k_ => k_ ≠ gb295)) k_ ∧ some k_ ≠ (u3 : Value).ownBlock) (Kd.R_types (Kd.R_apart' (HO301.out) (Kd.S_typed HO_3.out) (by decide)) BK295.out (by decide)) (fun k_ hk => ⟨hk.2, hk.1.2⟩))) (fun _ h_ => Or.inr (h_)))); (case aB => exact (by repeat (first | (with_reducible first | exact HB.out | apply below_alloc | apply pw_below_drewN | apply below_drew1 | refine below_set ?_ GE295.out) | exact HB.out))); (case aF => exact (fun k_ hk => Kd.freshB (g := gb295) (o := .cells #[.int .u32 ((rd_T42 l0 x4_1).f0), .slice Ao10 t296.length co10, .int .u64 ((rd_T42 l0 x4_1).f2), .int .u64 ((rd_T42 l0 x4_1).f3), .slice Ao13 y299.length co13] 42 (0, 0)) (by (with_reducible repeat (first | refine blk_drewN ?_ _ | refine blk_drew ?_ | refine blk_alloc ?_ _)); exact BK295.out) k_ hk)); (case aO => exact (by (with_reducible repeat (first | apply Kd.S_alloc | apply Kd.S_drewN | apply Kd.S_drew)); exact Kd.S_mono HO_3.out (fun k_ hk => ⟨hk.2.2, fun e_ => e_.elim (fun h_ => hk.1 h_) (fun h_ => hk.2.1 h_)⟩))); (case aS => exact (below_size (by repeat (first | (with_reducible first | exact HB.out | apply below_alloc | apply pw_below_drewN | apply below_drew1 | refine below_set ?_ GE295.out) | exact HB.out)))); (case aL => have := LMc6.out; omega); intro v303 w17 ho hb hg hat; rw [← Ny302.out] at ho; have n0_ := Aside0.mk (blk_grown (g := gb295) (o := .cells #[.int .u32 ((rd_T42 l0 x4_1).f0), .slice Ao10 t296.length co10, .int .u64 ((rd_T42 l0 x4_1).f2), .int .u64 ((rd_T42 l0 x4_1).f3), .slice Ao13 y299.length co13] 42 (0, 0)) (by (with_reducible repeat (first | refine blk_drewN ?_ _ | refine blk_drew ?_ | refine blk_alloc ?_ _)); exact BK295.out) hg (Kd.S_away HO_3.out (fun _ hk => hk.2.2))); have n1_ := Aside0.mk (hb); have n2_ := Aside0.mk (ho); clear BK295; clear HB; clear HO_3; clear HO298; clear HO301; have BK295 := n0_; have HB := n1_; have HO304 := n2_; clear n0_ n1_ n2_; clear ho hb hg hat))
       go_roundg k1
       case measure => have := HK1.out; omega
       case rel => exact ⟨(y302), (wrap64 (x4_1 + 1)), (by first | rfl | (simp; done) | (simp [*]; done)), H', ⟨by have := HK1.out; omega⟩, ⟨by (with_reducible repeat (first | apply Kd.S_alloc | apply Kd.S_drewN | apply Kd.S_drew)); exact Kd.S_mono HO304.out (fun _ hk => trivial)⟩, ⟨by repeat (first | (with_reducible first | exact HB.out | apply below_alloc | apply pw_below_drewN | apply below_drew1 | refine below_set ?_ GE295.out) | exact HB.out)⟩⟩
      ·rw [if_neg c6] at H
       exact absurd H (by simp)
     ·rw [if_neg c5] at H
      exact absurd H (by simp)
    ·rw [if_neg c3] at H
     exact absurd H (by simp)
   ·rw [if_neg c2] at H
    have c2b0 : decide (x4_1 < (l0.length : Int)) = false := decide_eq_false c2
    clear c2
    obtain rfl := Option.some.inj H
    go_wp2
    go_ret
    exact ⟨_, by first | rfl | (simp [errW_none, errW_some] <;> rfl) | (simp [*, errW_none, errW_some] <;> rfl), by (with_reducible repeat (first | apply Kd.S_alloc | apply Kd.S_drewN | apply Kd.S_drew)); exact HO_3.out, by repeat (first | (with_reducible first | exact HB.out | apply below_alloc | apply pw_below_drewN | apply below_drew1) | exact HB.out)⟩
def slices_Index_uint32_uint32.l0 : Nat → List Int → Int → Int → Int → Option (Int)
 | 0, _, _, _, _ => none
 | k + 1, x0, x1, x7, x8 => if x8 < x7 then (if 0 ≤ x8 then (if x8 < (x0.length : Int) then (if x1 = (rd x0 x8) then (some x8) else (slices_Index_uint32_uint32.l0 k x0 x1 x7 (wrap64 (x8 + 1)))) else (none)) else (none)) else (some (-1))
def slices_Index_uint32_uint32.f (k : Nat) (l0 : List Int) (a1 : Int) : Option (Int) := slices_Index_uint32_uint32.l0 k l0 a1 (l0.length : Int) 0
set_option maxHeartbeats 8000000 in
set_option maxRecDepth 100000 in
theorem slices_Index_uint32_uint32.calls (k : Nat) (A0 : Option Addr) (c0 : Nat) (l0 : List Int) (a1 : Int) (r : Int) (w : World) (hr0 : Kd.C (Kd.int .u32) w A0 l0.length l0) (hc0 : l0.length ≤ c0) (h : slices_Index_uint32_uint32.f k l0 a1 = some r) :
  Calls Tryd.prog 52 #[.slice A0 l0.length c0, .int .u32 a1] w fun e w' => e = .returned (.int .i64 r) ∧ Drawn0 w w' := by
 have HR0 := Aside0.mk hr0
 have HC0 := Aside0.mk hc0
 clear hr0 hc0
 have H : (slices_Index_uint32_uint32.l0 k l0 a1 (l0.length : Int) 0) = some r := h
 clear h
 have H' := Aside0.mk H
 clear H
 go_enter Tryd.func52, Tryd.ntmps52
 go_wp2
 go_loopg [8] k (fun kq v8 w' => ∃ (x8_1 : Int), v8 = .int .i64 x8_1 ∧ Aside0 (slices_Index_uint32_uint32.l0 kq l0 a1 (l0.length : Int) x8_1 = some r) ∧ Aside0 (kq ≤ k) ∧ Drawn0 w w')
 case atStart => exact ⟨(0), (by first | rfl | (simp; done) | (simp [*]; done)), H', ⟨Nat.le_refl _⟩, by repeat (first | exact Drawn0.refl _ | apply Drawn0.step)⟩
 case round =>
  clear H'
  try clear p2
  obtain ⟨x8_1, rfl, HA, HK1, ⟨m1, rfl⟩⟩ := hrel
  cases gk with
  | zero => exact absurd HA.out (by simp [slices_Index_uint32_uint32.l0])
  | succ k1 =>
   have H := HA.out
   clear HA
   simp only [slices_Index_uint32_uint32.l0] at H
   by_cases c3 : x8_1 < (l0.length : Int)
   ·rw [if_pos c3] at H
    have c3b0 : decide (x8_1 < (l0.length : Int)) = true := decide_eq_true c3
    clear c3
    by_cases c4 : 0 ≤ x8_1
    ·rw [if_pos c4] at H
     have c4b0 : decide (0 ≤ x8_1) = true := decide_eq_true c4
     clear c4
     by_cases c5 : x8_1 < (l0.length : Int)
     ·rw [if_pos c5] at H
      have c5b0 : decide (x8_1 < (l0.length : Int)) = true := decide_eq_true c5
      clear c5
      by_cases c6 : a1 = (rd l0 x8_1)
      ·rw [if_pos c6] at H
       have c6b0 : (a1 == (rd l0 x8_1)) = true := beq_iff_eq.mpr c6
       have c6b1 : (a1 != (rd l0 x8_1)) = false := bne_eq_false_iff_eq.mpr c6
       clear c6
       obtain rfl := Option.some.inj H
       have p305 : 0 ≤ (x8_1 : Int) := of_decide_eq_true (by first | (with_reducible assumption) | assumption)
       have q305 : x8_1 < (l0.length : Int) := of_decide_eq_true (by first | (with_reducible assumption) | assumption)
       obtain ⟨ad305, e305, hx305_0⟩ := Kd.at_int HR0.out x8_1 p305 q305
       cases e305
       replace p305 := eq_true p305
       replace q305 := eq_true q305
       go_wp2
       go_ret
       exact ⟨by first | rfl | (simp; done) | (simp [*]; done), by repeat (first | exact Drawn0.refl _ | apply Drawn0.step)⟩
      ·rw [if_neg c6] at H
       have c6b0 : (a1 == (rd l0 x8_1)) = false := beq_eq_false_iff_ne.mpr c6
       have c6b1 : (a1 != (rd l0 x8_1)) = true := bne_iff_ne.mpr c6
       have H' := Aside0.mk H
       clear H
       have p305 : 0 ≤ (x8_1 : Int) := of_decide_eq_true (by first | (with_reducible assumption) | assumption)
       have q305 : x8_1 < (l0.length : Int) := of_decide_eq_true (by first | (with_reducible assumption) | assumption)
       obtain ⟨ad305, e305, hx305_0⟩ := Kd.at_int HR0.out x8_1 p305 q305
       cases e305
       replace p305 := eq_true p305
       replace q305 := eq_true q305
       go_wp2
       go_roundg k1
       case measure => have := HK1.out; omega
       case rel => exact ⟨(wrap64 (x8_1 + 1)), (by first | rfl | (simp; done) | (simp [*]; done)), H', ⟨by have := HK1.out; omega⟩, by repeat (first | exact Drawn0.refl _ | apply Drawn0.step)⟩
     ·rw [if_neg c5] at H
      exact absurd H (by simp)
    ·rw [if_neg c4] at H
     exact absurd H (by simp)
   ·rw [if_neg c3] at H
    have c3b0 : decide (x8_1 < (l0.length : Int)) = false := decide_eq_false c3
    clear c3
    obtain rfl := Option.some.inj H
    go_wp2
    go_ret
    exact ⟨by first | rfl | (simp; done) | (simp [*]; done), by repeat (first | exact Drawn0.refl _ | apply Drawn0.step)⟩
def slices_Contains_uint32_uint32.f (k : Nat) (l0 : List Int) (a1 : Int) : Option (Bool) := (slices_Index_uint32_uint32.f k l0 a1).bind fun t306 => (some (decide (t306 ≥ 0)))
set_option maxHeartbeats 8000000 in
set_option maxRecDepth 100000 in
theorem slices_Contains_uint32_uint32.calls (k : Nat) (A0 : Option Addr) (c0 : Nat) (l0 : List Int) (a1 : Int) (r : Bool) (w : World) (hr0 : Kd.C (Kd.int .u32) w A0 l0.length l0) (hc0 : l0.length ≤ c0) (h : slices_Contains_uint32_uint32.f k l0 a1 = some r) :
  Calls Tryd.prog 36 #[.slice A0 l0.length c0, .int .u32 a1] w fun e w' => e = .returned (.bool r) ∧ Drawn0 w w' := by
 have HR0 := Aside0.mk hr0
 have HC0 := Aside0.mk hc0
 clear hr0 hc0
 have H : ((slices_Index_uint32_uint32.f k l0 a1).bind fun t306 => (some (decide (t306 ≥ 0)))) = some r := h
 clear h
 replace H := Option.bind_eq_some_iff.mp H
 obtain ⟨t306, A30, H⟩ := H
 replace H : (some (decide (t306 ≥ 0))) = some r := H
 have A3 := Aside0.mk A30
 clear A30
 obtain rfl := Option.some.inj H
 go_enter Tryd.func36, Tryd.ntmps36
 go_wp2_with (first | ((with_reducible refine gate_callee (f := 52) rfl ?_); refine goesL_ (some 7) rfl rfl Tryd.func52 (by kernel_rfl) rfl #[.slice A0 l0.length c0, .int .u32 a1] rfl (by (try simp only [List.map_toArray, List.map_cons, List.map_nil]); first | done | rfl | (simp only [List.length_drop, List.length_take]; rfl) | (simp only [List.length_drop, List.length_take]; (repeat rw [Nat.min_eq_left (by simp only [eq_iff_iff, iff_true] at *; omega)]); rfl)) ?_; (with_reducible refine (slices_Index_uint32_uint32.calls k _ _ l0 a1 t306 _ ?side1 ?side2 A3.out).mono ?_); (case side1 => repeat (first | exact HR0.out | (with_reducible refine Kd.C_alloc ?_ _) | (with_reducible refine Kd.C_drewN ?_ _) | (with_reducible refine Kd.C_drew ?_))); (case side2 => exact HC0.out); rintro e w' ⟨rfl, ⟨nd, rfl⟩⟩; refine ⟨_, rfl, ?_⟩))
 go_ret
 exact ⟨by first | rfl | (simp; done) | (simp [*]; done), by repeat (first | exact Drawn0.refl _ | apply Drawn0.step)⟩
end Go.Proofs.YtabdnlecpndfjaaDoor.PBase
set_option linter.unusedVariables false
set_option linter.unusedSimpArgs false
namespace Go.Proofs.YtabdnlecpndfjaaDoor.Sp
open Go.RowKit Go.Proofs.YtabdnlecpndfjaaDoor.PBase Go.Proofs.YtabdnlecpndfjaaDoorW.PrintWords Go.Proofs.YtabdnlecpndfjaaDoorW.PrintLast Go.Proofs.YtabdnlecpndfjaaDoorW.PrintMore
theorem w64 (n : Int) (h0 : -9223372036854775808 ≤ n) (h1 : n ≤ 9223372036854775807) : wrap64 n = n := by unfold wrap64; omega
theorem and1 (x : Int) (h0 : 0 ≤ x) (h1 : x < 256) : Go.bits .and .u8 x 1 = x % 2 := bits_mask .u8 8 (by decide) wraps_u8 1 (by decide) x h0 (by omega)
theorem bit_at (l : List Int) : ∀ p, p < 8 * l.length → (bitsOf l).getD p 0 = l.getD (p / 8) 0 / 2 ^ (7 - p % 8) % 2 := by
  induction l with
  | nil => intro p h; simp at h
  | cons x l ih =>
    intro p h
    rw [bitsOf_cons]
    match p, h with
    | 0, _ => simp [bits8]
    | 1, _ => simp [bits8]
    | 2, _ => simp [bits8]
    | 3, _ => simp [bits8]
    | 4, _ => simp [bits8]
    | 5, _ => simp [bits8]
    | 6, _ => simp [bits8]
    | 7, _ => simp [bits8]
    | q + 8, h =>
      have h1 : (q + 8) / 8 = q / 8 + 1 := by omega
      have h2 : (q + 8) % 8 = q % 8 := by omega
      rw [h1, h2, List.getD_cons_succ, ← ih q (by simp only [List.length_cons] at h; omega)]
      simp [bits8, List.getD_eq_getElem?_getD]
theorem rd_byte (l : List Int) (hb : Bytes l) (i : Int) : 0 ≤ rd l i ∧ rd l i ≤ 255 := by
  unfold rd
  by_cases h : i.toNat < l.length
  · rw [List.getD_eq_getElem?_getD, List.getElem?_eq_getElem h]
    exact hb _ (List.getElem_mem h)
  · rw [List.getD_eq_getElem?_getD, List.getElem?_eq_none (by omega)]
    simp
theorem w_in (l : List Int) (hl : l.length ≤ 1000000) (hb : Bytes l) (k : Nat) (x : ByteArray) (i n p : Int) (h0 : 0 ≤ p) (h1 : p < i + 5) (h2 : i ≤ 8 * l.length) (hn0 : 0 ≤ n) (hn1 : n < 1024) :
    coamingref04_Write.l1 (k + 1) l x i n p = coamingref04_Write.l1 k l x i (2 * n + (bitsOf l).getD p.toNat 0) (p + 1) := by
  have e1 : wrap64 (i + 5) = i + 5 := w64 _ (by omega) (by omega)
  have e2 : wrap64 (8 * (l.length : Int)) = 8 * l.length := w64 _ (by omega) (by omega)
  have e3 : wrap64 (p + 1) = p + 1 := w64 _ (by omega) (by omega)
  have e4 : wrap64 (2 * n) = 2 * n := w64 _ (by omega) (by omega)
  have e5 : wrap64 (2 * n + 1) = 2 * n + 1 := w64 _ (by omega) (by omega)
  rw [coamingref04_Write.l1, e1, e2, e3, e4, e5, if_pos h1]
  by_cases hp : p < 8 * (l.length : Int)
  · have f1 : wrap64 (Int.tdiv p 8) = p / 8 := by rw [Int.tdiv_eq_ediv_of_nonneg h0]; exact w64 _ (by omega) (by omega)
    have f2 : IntKind.u64.wrap (wrap64 (7 - Int.tmod p 8)) = 7 - p % 8 := by rw [Int.tmod_eq_emod_of_nonneg h0, w64 _ (by omega) (by omega)]; exact Bt.wraps_u64 _ (by omega) (by omega)
    rw [if_pos hp, f1, f2, if_pos (by omega), if_pos (by omega), if_pos (by omega)]
    have f3 : shr .u8 (rd l (p / 8)) (7 - p % 8) = rd l (p / 8) / 2 ^ (7 - p.toNat % 8) := by
      unfold shr
      have : (7 - p % 8).toNat = 7 - p.toNat % 8 := by omega
      rw [this, Nat.min_eq_left (by show 7 - p.toNat % 8 ≤ 8; omega)]
    have f4 : rd l (p / 8) = l.getD (p.toNat / 8) 0 := by unfold rd; rw [show (p / 8).toNat = p.toNat / 8 by omega]
    have hby := rd_byte l hb (p / 8)
    have g0 : 0 ≤ rd l (p / 8) / 2 ^ (7 - p.toNat % 8) := Int.ediv_nonneg hby.1 (Int.le_of_lt (Int.pow_pos (by decide)))
    have g1 : rd l (p / 8) / 2 ^ (7 - p.toNat % 8) ≤ rd l (p / 8) := Int.ediv_le_self _ hby.1
    rw [f3, and1 _ g0 (by omega)]
    have f5 := bit_at l p.toNat (by omega)
    rw [← f4] at f5
    rw [f5]
    generalize rd l (p / 8) / 2 ^ (7 - p.toNat % 8) % 2 = b at *
    have hb2 : b = 0 ∨ b = 1 := by
      have := BitsOf l
      rw [List.getD_eq_getElem?_getD, List.getElem?_eq_getElem (by rw [bitsOf_length]; omega)] at f5
      have h9 : 0 ≤ b ∧ b ≤ 1 := by rw [← f5]; exact this _ (List.getElem_mem _)
      omega
    rcases hb2 with rfl | rfl
    · rw [if_neg (by decide), Int.add_zero]
    · rw [if_pos rfl]
  · rw [if_neg hp]
    have : (bitsOf l).getD p.toNat 0 = 0 := by
      rw [List.getD_eq_getElem?_getD, List.getElem?_eq_none (by rw [bitsOf_length]; omega)]; rfl
    rw [this, Int.add_zero]
theorem sgs_extract (n : Int) (h0 : 0 ≤ n) (h1 : n < 32) : (ByteArray.mk #[97, 98, 99, 100, 101, 102, 103, 104, 105, 106, 107, 108, 109, 110, 111, 112, 113, 114, 115, 116, 117, 118, 119, 120, 121, 122, 50, 51, 52, 53, 54, 55]).extract n.toNat (n + 1).toNat = ⟨#[sg n]⟩ := by
  have h : ∀ i : Fin 32, ((ByteArray.mk #[97, 98, 99, 100, 101, 102, 103, 104, 105, 106, 107, 108, 109, 110, 111, 112, 113, 114, 115, 116, 117, 118, 119, 120, 121, 122, 50, 51, 52, 53, 54, 55]).extract i.val (i.val + 1)).data = #[sg (i.val : Int)] := by decide
  have h2 := h ⟨n.toNat, by omega⟩
  have e1 : (n + 1).toNat = n.toNat + 1 := by omega
  rw [e1]
  apply ByteArray.ext
  rw [h2]
  simp only [Int.toNat_of_nonneg h0]
theorem getD01 {l : List Int} (h : Bits l) (i : Nat) : 0 ≤ l.getD i 0 ∧ l.getD i 0 ≤ 1 := by
  rw [List.getD_eq_getElem?_getD]
  cases e : l[i]? with
  | none => simp
  | some b => exact h b (List.mem_of_getElem? e)
theorem w_five (l : List Int) (hl : l.length ≤ 1000000) (hb : Bytes l) (k : Nat) (x : ByteArray) (i : Int) (h0 : 0 ≤ i) (h2 : i < 8 * l.length) (hx : x.size ≤ 100000000) :
    coamingref04_Write.l0 (k + 7) l x i = coamingref04_Write.l0 k l (x ++ ⟨#[sg (16 * (bitsOf l).getD i.toNat 0 + 8 * (bitsOf l).getD (i + 1).toNat 0 + 4 * (bitsOf l).getD (i + 1 + 1).toNat 0 + 2 * (bitsOf l).getD (i + 1 + 1 + 1).toNat 0 + (bitsOf l).getD (i + 1 + 1 + 1 + 1).toNat 0)]⟩) (i + 5) := by
  have hB := BitsOf l
  have b0 := getD01 hB i.toNat
  have b1 := getD01 hB (i + 1).toNat
  have b2 := getD01 hB (i + 1 + 1).toNat
  have b3 := getD01 hB (i + 1 + 1 + 1).toNat
  have b4 := getD01 hB (i + 1 + 1 + 1 + 1).toNat
  rw [coamingref04_Write.l0, w64 (8 * (l.length : Int)) (by omega) (by omega), if_pos h2]
  rw [w_in l hl hb _ x i 0 i h0 (by omega) (by omega) (by omega) (by omega)]
  rw [w_in l hl hb _ x i _ (i + 1) (by omega) (by omega) (by omega) (by omega) (by omega)]
  rw [w_in l hl hb _ x i _ (i + 1 + 1) (by omega) (by omega) (by omega) (by omega) (by omega)]
  rw [w_in l hl hb _ x i _ (i + 1 + 1 + 1) (by omega) (by omega) (by omega) (by omega) (by omega)]
  rw [w_in l hl hb _ x i _ (i + 1 + 1 + 1 + 1) (by omega) (by omega) (by omega) (by omega) (by omega)]
  generalize (bitsOf l).getD i.toNat 0 = a0 at *
  generalize (bitsOf l).getD (i + 1).toNat 0 = a1 at *
  generalize (bitsOf l).getD (i + 1 + 1).toNat 0 = a2 at *
  generalize (bitsOf l).getD (i + 1 + 1 + 1).toNat 0 = a3 at *
  generalize (bitsOf l).getD (i + 1 + 1 + 1 + 1).toNat 0 = a4 at *
  rw [show 2 * (2 * (2 * (2 * (2 * 0 + a0) + a1) + a2) + a3) + a4 = 16 * a0 + 8 * a1 + 4 * a2 + 2 * a3 + a4 by omega]
  have g0 : 0 ≤ 16 * a0 + 8 * a1 + 4 * a2 + 2 * a3 + a4 := by omega
  have g1 : 16 * a0 + 8 * a1 + 4 * a2 + 2 * a3 + a4 < 32 := by omega
  generalize 16 * a0 + 8 * a1 + 4 * a2 + 2 * a3 + a4 = n at *
  rw [coamingref04_Write.l1, w64 (i + 5) (by omega) (by omega), if_neg (by omega), w64 (n + 1) (by omega) (by omega), if_pos g0, if_pos (by omega), if_pos (by omega), sgs_extract n g0 g1]
  rw [if_pos (by show x.size + 1 ≤ _; omega)]
theorem ba_append (x : ByteArray) (a : UInt8) (l : List UInt8) : (x ++ ⟨#[a]⟩) ++ (⟨l.toArray⟩ : ByteArray) = x ++ ⟨(a :: l).toArray⟩ := by
  apply ByteArray.ext
  simp [ByteArray.data_append]
theorem w_all (l : List Int) (hl : l.length ≤ 1000000) (hb : Bytes l) (d : Nat) : ∀ (k : Nat) (x : ByteArray) (i : Nat), 8 * l.length ≤ i + d → 7 * d < k → x.size + d ≤ 100000000 →
    coamingref04_Write.l0 k l x i = some (x ++ ⟨(enc ((bitsOf l).drop i)).toArray⟩) := by
  induction d with
  | zero =>
    intro k x i h hk hx
    obtain ⟨k, rfl⟩ : ∃ m, k = m + 1 := ⟨k - 1, by omega⟩
    rw [coamingref04_Write.l0, w64 (8 * (l.length : Int)) (by omega) (by omega), if_neg (by omega), List.drop_of_length_le (by rw [bitsOf_length]; omega)]
    congr 1
    apply ByteArray.ext
    simp [enc, ByteArray.data_append]
  | succ d ih =>
    intro k x i h hk hx
    by_cases hi : i < 8 * l.length
    · obtain ⟨k, rfl⟩ : ∃ m, k = m + 7 := ⟨k - 7, by omega⟩
      rw [w_five l hl hb k x i (by omega) (by omega) (by omega)]
      have e5 : ((i : Int) + 5) = ((i + 5 : Nat) : Int) := by omega
      rw [e5, ih k _ (i + 5) (by omega) (by omega) (by rw [ByteArray.size_append]; show x.size + 1 + d ≤ _; omega)]
      rw [enc_step ((bitsOf l).drop i) (by intro e; have := congrArg List.length e; rw [List.length_drop, bitsOf_length] at this; simp at this; omega)]
      rw [ba_append]
      congr 3
      simp only [List.getD_eq_getElem?_getD, List.getElem?_drop, List.drop_drop]
      rfl
    · obtain ⟨k, rfl⟩ : ∃ m, k = m + 1 := ⟨k - 1, by omega⟩
      rw [coamingref04_Write.l0, w64 (8 * (l.length : Int)) (by omega) (by omega), if_neg (by omega), List.drop_of_length_le (by rw [bitsOf_length]; omega)]
      congr 1
      apply ByteArray.ext
      simp [enc, ByteArray.data_append]
theorem refWrite_is (l : List Int) (hl : l.length ≤ 1000000) (hb : Bytes l) (k : Nat) (hk : 56 * l.length < k) : coamingref04_Write.f k l = some ⟨(enc (bitsOf l)).toArray⟩ := by
  unfold coamingref04_Write.f
  have h := w_all l hl hb (8 * l.length) k ⟨#[]⟩ 0 (by omega) (by omega) (by show 0 + 8 * l.length ≤ _; omega)
  rw [show ((0 : Nat) : Int) = 0 from rfl] at h
  rw [h]
  congr 1
def bs (s : ByteArray) : List Int := s.data.toList.map fun c => (c.toNat : Int)
theorem bs_length (s : ByteArray) : (bs s).length = s.size := by simp [bs]
theorem bs_drop (s : ByteArray) (i : Nat) (h : i < s.size) : (bs s).drop i = bt s i :: (bs s).drop (i + 1) := by
  rw [List.drop_eq_getElem_cons (by rw [bs_length]; exact h)]
  congr 1
  simp [bs, bt, h]
  rfl
theorem number_is (k : Nat) (c : Int) (h0 : 0 ≤ c) (h1 : c ≤ 255) (hk : 0 < k) : spell_number.f k c = some (match dg c with | some d => (d, true) | none => (0, false)) := by
  obtain ⟨k, rfl⟩ : ∃ m, k = m + 1 := ⟨k - 1, by omega⟩
  have h : ∀ c : Fin 256, spell_number.f 1 (c.val : Int) = some (match dg (c.val : Int) with | some d => (d, true) | none => (0, false)) := by decide +kernel
  have h2 := h ⟨c.toNat, by omega⟩
  simp only [Int.toNat_of_nonneg h0] at h2
  unfold spell_number.f at h2 ⊢
  simp only [spell_number.j0] at h2 ⊢
  exact h2
theorem sign_is (k : Nat) (c : Int) (h0 : 0 ≤ c) (h1 : c ≤ 255) (hk : 40 ≤ k) : coamingref04_sign.f k c = some ((dg c).getD (-1)) := by
  have h : ∀ c : Fin 256, coamingref04_sign.f 40 (c.val : Int) = some ((dg (c.val : Int)).getD (-1)) := by decide +kernel
  have h2 := h ⟨c.toNat, by omega⟩
  simp only [Int.toNat_of_nonneg h0] at h2
  have mono : ∀ d, coamingref04_sign.f (40 + d) c = some ((dg c).getD (-1)) := by
    intro d
    induction d with
    | zero => exact h2
    | succ d ih => exact coamingref04_sign.mono c (40 + d) _ ih
  have := mono (k - 40)
  rwa [show 40 + (k - 40) = k by omega] at this
theorem number_some (k : Nat) (c v : Int) (h0 : 0 ≤ c) (h1 : c ≤ 255) (hk : 0 < k) (h : dg c = some v) : spell_number.f k c = some (v, true) := by rw [number_is k c h0 h1 hk, h]
theorem number_none (k : Nat) (c : Int) (h0 : 0 ≤ c) (h1 : c ≤ 255) (hk : 0 < k) (h : dg c = none) : spell_number.f k c = some (0, false) := by rw [number_is k c h0 h1 hk, h]
theorem sign_some (k : Nat) (c v : Int) (h0 : 0 ≤ c) (h1 : c ≤ 255) (hk : 40 ≤ k) (h : dg c = some v) : coamingref04_sign.f k c = some v := by rw [sign_is k c h0 h1 hk, h]; rfl
theorem sign_none (k : Nat) (c : Int) (h0 : 0 ≤ c) (h1 : c ≤ 255) (hk : 40 ≤ k) (h : dg c = none) : coamingref04_sign.f k c = some (-1) := by rw [sign_is k c h0 h1 hk, h]; rfl
theorem fold_none {α : Type} {c : Int} {cs : List Int} {z : α} {f : List Int → α} (h : dg c = none) : (digits (c :: cs)).elim z f = z := by rw [digits, h]; rfl
theorem fold_some {α : Type} {c v : Int} {cs : List Int} {z : α} {f : List Int → α} (h : dg c = some v) : (digits (c :: cs)).elim z f = (digits cs).elim z (fun ds => f (v :: ds)) := by
  rw [digits, h]
  cases digits cs <;> rfl
end Go.Proofs.YtabdnlecpndfjaaDoor.Sp
set_option linter.unusedVariables false
set_option linter.unusedSimpArgs false
namespace Go.Proofs.YtabdnlecpndfjaaDoor.Sp
open Go.RowKit Go.Proofs.YtabdnlecpndfjaaDoor.PBase Go.Proofs.YtabdnlecpndfjaaDoorW.PrintWords Go.Proofs.YtabdnlecpndfjaaDoorW.PrintLast Go.Proofs.YtabdnlecpndfjaaDoorW.PrintMore
theorem val_foldl (B : List Int) : ∀ a : Int, B.foldl (fun h b => 2 * h + b) a = a * 2 ^ B.length + val B := by
  induction B with
  | nil => intro a; simp [val]
  | cons b B ih =>
    intro a
    have h1 := ih (2 * a + b)
    have h2 := ih (2 * 0 + b)
    simp only [List.foldl_cons, val, List.length_cons] at *
    rw [h1, h2, Int.pow_succ, show (2 : Int) * 0 + b = b by omega, Int.add_mul]
    rw [show a * (2 ^ B.length * 2) = 2 * a * 2 ^ B.length by rw [Int.mul_comm (2 ^ B.length) 2, ← Int.mul_assoc, Int.mul_comm a 2]]
    omega
theorem val_append (A B : List Int) : val (A ++ B) = val A * 2 ^ B.length + val B := by
  show (A ++ B).foldl _ 0 = _
  rw [List.foldl_append]
  exact val_foldl B _
theorem val_range (B : List Int) (h : Bits B) : 0 ≤ val B ∧ val B < 2 ^ B.length := by
  induction B with
  | nil => simp [val]
  | cons b B ih =>
    have hb := h.head
    have := ih h.tail
    have e : val (b :: B) = b * 2 ^ B.length + val B := by rw [← val_foldl B b]; simp [val]
    rw [e, List.length_cons, Int.pow_succ]
    have hp : (0 : Int) < 2 ^ B.length := Int.pow_pos (by decide)
    rcases (by omega : b = 0 ∨ b = 1) with rfl | rfl <;> omega
theorem val_bits5 (d : Int) (h0 : 0 ≤ d) (h1 : d < 32) : val (bits5 d) = d := by simp only [val, bits5, List.foldl]; omega
theorem val_five (R : List Int) (d : Int) (h0 : 0 ≤ d) (h1 : d < 32) : val (R ++ bits5 d) = val R * 32 + d := by
  rw [val_append, val_bits5 d h0 h1]
  rfl
theorem val_split (L : List Int) (h : Bits L) (n : Nat) (hn : L.length = 8 + n) : val L / 2 ^ n = val (L.take 8) ∧ val L % 2 ^ n = val (L.drop 8) := by
  have e := val_append (L.take 8) (L.drop 8)
  rw [List.take_append_drop, List.length_drop, show L.length - 8 = n by omega] at e
  have hb : Bits (L.take 8 ++ L.drop 8) := by rw [List.take_append_drop]; exact h
  have hr := val_range _ hb.right
  rw [List.length_drop, show L.length - 8 = n by omega] at hr
  have hp : (0 : Int) < 2 ^ n := Int.pow_pos (by decide)
  rw [e]
  constructor
  · rw [Int.add_comm, Int.add_mul_ediv_right _ _ (by omega), Int.ediv_eq_zero_of_lt hr.1 hr.2]
    omega
  · rw [Int.add_comm, Int.add_mul_emod_self_right, Int.emod_eq_of_lt hr.1 hr.2]
theorem pow7 : ∀ m, m < 8 → (2 : Int) ^ m ≤ 128 := by decide
theorem pow12 : ∀ m, m < 13 → (2 : Int) ^ m ≤ 4096 := by decide
theorem pow_le7 (R : List Int) (h : Bits R) (hl : R.length < 8) : 0 ≤ val R ∧ val R < 128 := by
  have := val_range R h
  have h2 := pow7 R.length hl
  omega
theorem pow_le12 (L : List Int) (h : Bits L) (hl : L.length ≤ 12) : 0 ≤ val L ∧ val L < 4096 := by
  have := val_range L h
  have h2 := pow12 L.length (by omega)
  omega
theorem five_length (R : List Int) (v : Int) : (R ++ bits5 v).length = R.length + 5 := by simp [bits5]
theorem rd_or (R : List Int) (v : Int) (hR : Bits R) (hl : R.length < 8) (h0 : 0 ≤ v) (h1 : v < 32) : Go.bits .or .u64 (IntKind.u64.wrap (val R * 32)) v = val (R ++ bits5 v) := by
  have hr := pow_le7 R hR hl
  rw [Bt.wraps_u64 _ (by omega) (by omega), Bt.or_u64 5 _ _ (by omega) (by omega) (by omega) h0 (by omega) (by omega), val_five R v h0 h1]
theorem rd_shr (k : IntKind) (hk : k.bits = 64) (L : List Int) (h : Bits L) (h8 : 8 ≤ L.length) (hl : L.length ≤ 12) : shr k (val L) ((L.drop 8).length : Nat) % 256 = val (L.take 8) := by
  have hn : (L.drop 8).length ≤ 4 := by rw [List.length_drop]; omega
  have hs := (val_split L h (L.drop 8).length (by rw [List.length_drop]; omega)).1
  have hb' : Bits (L.take 8 ++ L.drop 8) := by rw [List.take_append_drop]; exact h
  have hv := val8_of _ hb'.left (by rw [List.length_take]; omega)
  unfold shr
  rw [Int.toNat_natCast, Nat.min_eq_left (by omega), hs]
  omega
theorem rd_mask (L : List Int) (h : Bits L) (h8 : 8 ≤ L.length) (hl : L.length ≤ 12) : Go.bits .and .u64 (val L) (IntKind.u64.wrap (shl .u64 1 ((L.drop 8).length : Nat) - 1)) = val (L.drop 8) := by
  have hn : (L.drop 8).length ≤ 4 := by rw [List.length_drop]; omega
  have hs := (val_split L h (L.drop 8).length (by rw [List.length_drop]; omega)).2
  have hL := pow_le12 L h hl
  have e8 : shl .u64 1 ((L.drop 8).length : Nat) = IntKind.u64.wrap (2 ^ ((L.drop 8).length : Int).toNat) := by
    unfold shl
    rw [Int.toNat_natCast, Nat.min_eq_left (by show _ ≤ 64; omega), Int.one_mul]
  rw [e8, Bt.mask_low _ _ hL.1 (by omega) (by omega) (by omega), Int.toNat_natCast, hs]
theorem rd_one (n : Nat) (hn : n ≤ 4) : shl .i64 1 (n : Int) = 2 ^ n := by
  have h : ∀ n, n < 5 → shl .i64 1 ((n : Nat) : Int) = 2 ^ n := by decide
  exact h n (by omega)
theorem rd_tmod (L : List Int) (h : Bits L) (h8 : 8 ≤ L.length) (hl : L.length ≤ 12) : Int.tmod (val L) (shl .i64 1 ((L.drop 8).length : Nat)) = val (L.drop 8) := by
  have hn : (L.drop 8).length ≤ 4 := by rw [List.length_drop]; omega
  have hL := pow_le12 L h hl
  rw [rd_one _ hn, Int.tmod_eq_emod_of_nonneg hL.1]
  exact (val_split L h (L.drop 8).length (by rw [List.length_drop]; omega)).2
theorem drop8_length (L : List Int) (h8 : 8 ≤ L.length) (hl : L.length ≤ 12) : wrap64 ((L.length : Nat) - 8 : Int) = ((L.drop 8).length : Nat) := by
  rw [w64 _ (by omega) (by omega), List.length_drop]; omega
def finR (p : List Int × List Int) : List Int × Int := if 5 ≤ p.2.length then ([], 40) else if val p.2 = 0 then (p.1, 0) else ([], 40)
theorem read_end (s : ByteArray) (k : Nat) (o R : List Int) (i : Nat) (hi : ¬ i < s.size) : spell_Read.l0 (k + 1) s o (val R) R.length s.size i = some ((digits ((bs s).drop i)).elim ([], 40) fun ds => finR (take8 ds o R)) := by
  rw [spell_Read.l0, if_neg (by omega), List.drop_of_length_le (by rw [bs_length]; omega)]
  show _ = some (finR (o, R))
  unfold finR
  by_cases h5 : 5 ≤ R.length
  · rw [if_pos (by omega), if_pos (show 5 ≤ (o, R).2.length from h5)]
  · rw [if_neg (by omega), if_neg (show ¬ 5 ≤ (o, R).2.length from h5)]
    by_cases hv : val R = 0
    · rw [if_pos hv, if_pos (show val (o, R).2 = 0 from hv)]
    · rw [if_neg hv, if_neg (show ¬ val (o, R).2 = 0 from hv)]
set_option maxHeartbeats 1000000 in
theorem read_all (s : ByteArray) (hs : s.size ≤ 1000000) (d : Nat) : ∀ (k : Nat) (o R : List Int) (i : Nat), s.size ≤ i + d → d + 1 < k → Bits R → R.length < 8 → o.length + d ≤ 10000000 →
    spell_Read.l0 k s o (val R) R.length s.size i = some ((digits ((bs s).drop i)).elim ([], 40) fun ds => finR (take8 ds o R)) := by
  induction d with
  | zero =>
    intro k o R i h hk hR hl ho
    obtain ⟨k, rfl⟩ : ∃ m, k = m + 1 := ⟨k - 1, by omega⟩
    exact read_end s k o R i (by omega)
  | succ d ih =>
    intro k o R i h hk hR hl ho
    obtain ⟨k, rfl⟩ : ∃ m, k = m + 1 := ⟨k - 1, by omega⟩
    by_cases hi : i < s.size
    · rw [spell_Read.l0, if_pos (by omega), if_pos (by omega), if_pos (by omega)]
      have hb := bt_range s i
      rw [bs_drop s i hi]
      cases hd : dg (bt s i) with
      | none => rw [number_none k _ hb.1 hb.2 (by omega) hd, Option.bind_some, if_neg (by decide), fold_none hd]
      | some v =>
        have hv := dg_range hd
        have e3 : wrap64 ((R.length : Int) + 5) = ((R ++ bits5 v).length : Nat) := by rw [w64 _ (by omega) (by omega), five_length]; omega
        have e4 : wrap64 ((i : Int) + 1) = ((i + 1 : Nat) : Int) := by rw [w64 _ (by omega) (by omega)]; omega
        have hL : Bits (R ++ bits5 v) := hR.append (Bits5 v)
        have hLl := five_length R v
        rw [number_some k _ v hb.1 hb.2 (by omega) hd, Option.bind_some, if_pos rfl, fold_some hd]
        rw [rd_or R v hR hl hv.1 hv.2, e3, e4]
        clear e3 e4
        by_cases h8 : 8 ≤ R.length + 5
        · have hb' : Bits ((R ++ bits5 v).take 8 ++ (R ++ bits5 v).drop 8) := by rw [List.take_append_drop]; exact hL
          have f1 := drop8_length (R ++ bits5 v) (by omega) (by omega)
          have f2 := rd_shr .u64 rfl (R ++ bits5 v) hL (by omega) (by omega)
          have f3 := rd_mask (R ++ bits5 v) hL (by omega) (by omega)
          have c1 : ((R ++ bits5 v).length : Int) ≥ 8 := by omega
          have c2 : (0 : Int) ≤ (((R ++ bits5 v).drop 8).length : Nat) := by omega
          have c3 : o.length < 140737488355328 := by omega
          rw [if_pos c1]
          rw [f1]
          rw [if_pos c2]
          rw [if_pos c3]
          rw [f2]
          rw [f3]
          clear f1 f2 f3 c3
          rw [ih k _ _ (i + 1) (by omega) (by omega) hb'.right (by rw [List.length_drop]; omega) (by rw [List.length_append, List.length_singleton]; omega)]
          have e9 : ∀ ds, take8 (v :: ds) o R = take8 ds (o ++ [val ((R ++ bits5 v).take 8)]) ((R ++ bits5 v).drop 8) := fun ds => by rw [take8, if_pos h8]
          simp only [e9]
        · rw [if_neg (by omega)]
          rw [ih k _ _ (i + 1) (by omega) (by omega) hL (by omega) (by omega)]
          have e9 : ∀ ds, take8 (v :: ds) o R = take8 ds o (R ++ bits5 v) := fun ds => by rw [take8, if_neg h8]
          simp only [e9]
    · exact read_end s k o R i hi
theorem read_is (s : ByteArray) (hs : s.size ≤ 1000000) (k : Nat) (hk : s.size + 1 < k) : spell_Read.f k s = some (readOf (bs s)) := by
  unfold spell_Read.f
  have h := read_all s hs s.size k [] [] 0 (by omega) hk (by intro b h; simp at h) (by simp) (by simp; omega)
  rw [show spell_Read.l0 k s [] 0 0 s.size 0 = spell_Read.l0 k s [] (val []) (([] : List Int).length : Nat) s.size ((0 : Nat) : Int) from rfl, h]
  unfold readOf finR
  rw [List.drop_zero]
  cases digits (bs s) <;> rfl
end Go.Proofs.YtabdnlecpndfjaaDoor.Sp
set_option linter.unusedVariables false
set_option linter.unusedSimpArgs false
namespace Go.Proofs.YtabdnlecpndfjaaDoor.Sp
open Go.RowKit Go.Proofs.YtabdnlecpndfjaaDoor.PBase Go.Proofs.YtabdnlecpndfjaaDoorW.PrintWords Go.Proofs.YtabdnlecpndfjaaDoorW.PrintLast Go.Proofs.YtabdnlecpndfjaaDoorW.PrintMore
theorem bs_of (l : List UInt8) : bs ⟨l.toArray⟩ = l.map fun c => (c.toNat : Int) := by simp [bs]
theorem toList_mk (l : List UInt8) : (ByteArray.mk l.toArray).toList = l := by
  rw [Go.ByteArray.toList_eq]
theorem toList_data' (s : ByteArray) : s.toList = s.data.toList := Go.ByteArray.toList_eq s
def finS (s : ByteArray) (o : List Int) : List Int × Int := if enc (bitsOf o) = s.data.toList then (o, 0) else ([], 40)
theorem ref_end (s : ByteArray) (k : Nat) (o R : List Int) (i : Nat) (hi : ¬ i < s.size) (hk : 600000 < k) (ho : o.length ≤ 10000) (hb : Bytes o) : coamingref04_Read.l0 (k + 1) s o (val R) R.length i = some ((digits ((bs s).drop i)).elim ([], 40) fun ds => finS s (take8 ds o R).1) := by
  rw [coamingref04_Read.l0, if_neg (by omega), List.drop_of_length_le (by rw [bs_length]; omega), refWrite_is o (by omega) hb k (by omega)]
  show _ = some (finS s o)
  unfold finS
  rw [Option.bind_some, toList_mk, toList_data']
  split <;> rfl
set_option maxHeartbeats 1000000 in
theorem ref_all (s : ByteArray) (hs : s.size ≤ 10000) (d : Nat) : ∀ (k : Nat) (o R : List Int) (i : Nat), s.size ≤ i + d → d + 600001 < k → Bits R → R.length < 8 → o.length + d ≤ 10000 → Bytes o →
    coamingref04_Read.l0 k s o (val R) R.length i = some ((digits ((bs s).drop i)).elim ([], 40) fun ds => finS s (take8 ds o R).1) := by
  induction d with
  | zero =>
    intro k o R i h hk hR hl ho hb
    obtain ⟨k, rfl⟩ : ∃ m, k = m + 1 := ⟨k - 1, by omega⟩
    exact ref_end s k o R i (by omega) (by omega) (by omega) hb
  | succ d ih =>
    intro k o R i h hk hR hl ho hby
    obtain ⟨k, rfl⟩ : ∃ m, k = m + 1 := ⟨k - 1, by omega⟩
    by_cases hi : i < s.size
    · rw [coamingref04_Read.l0, if_pos (by omega), if_pos (by omega)]
      have hb := bt_range s i
      rw [bs_drop s i hi]
      cases hd : dg (bt s i) with
      | none => rw [sign_none k _ hb.1 hb.2 (by omega) hd, Option.bind_some, if_pos (by decide), fold_none hd]
      | some v =>
        have hv := dg_range hd
        have hr := pow_le7 R hR hl
        have c0 : ¬ v < 0 := by omega
        have e2 : wrap64 (wrap64 (val R * 32) + v) = val (R ++ bits5 v) := by rw [w64 (val R * 32) (by omega) (by omega), w64 _ (by omega) (by omega), val_five R v hv.1 hv.2]
        have e3 : wrap64 ((R.length : Int) + 5) = ((R ++ bits5 v).length : Nat) := by rw [w64 _ (by omega) (by omega), five_length]; omega
        have e4 : wrap64 ((i : Int) + 1) = ((i + 1 : Nat) : Int) := by rw [w64 _ (by omega) (by omega)]; omega
        have hL : Bits (R ++ bits5 v) := hR.append (Bits5 v)
        have hLl := five_length R v
        rw [sign_some k _ v hb.1 hb.2 (by omega) hd, Option.bind_some, fold_some hd]
        rw [if_neg c0, e2, e3, e4]
        clear e2 e3 e4
        by_cases h8 : 8 ≤ R.length + 5
        · have hb' : Bits ((R ++ bits5 v).take 8 ++ (R ++ bits5 v).drop 8) := by rw [List.take_append_drop]; exact hL
          have hn : ((R ++ bits5 v).drop 8).length ≤ 4 := by rw [List.length_drop]; omega
          have hp : (0 : Int) < 2 ^ ((R ++ bits5 v).drop 8).length := Int.pow_pos (by decide)
          have hv8 := val8_of _ hb'.left (by rw [List.length_take]; omega)
          have e5 : IntKind.u64.wrap (((R ++ bits5 v).drop 8).length : Nat) = (((R ++ bits5 v).drop 8).length : Nat) := Bt.wraps_u64 _ (by omega) (by omega)
          have f1 := drop8_length (R ++ bits5 v) (by omega) (by omega)
          have f2 := rd_shr .i64 rfl (R ++ bits5 v) hL (by omega) (by omega)
          have f3 := rd_tmod (R ++ bits5 v) hL (by omega) (by omega)
          have c1 : ((R ++ bits5 v).length : Int) ≥ 8 := by omega
          have c2 : (0 : Int) ≤ (((R ++ bits5 v).drop 8).length : Nat) := by omega
          have c3 : o.length < 140737488355328 := by omega
          have c4 : ¬ shl .i64 1 (((R ++ bits5 v).drop 8).length : Nat) = 0 := by rw [rd_one _ hn]; omega
          rw [if_pos c1, f1, e5, if_pos c2, if_pos c3, if_neg c4, f2, f3]
          clear f1 f2 f3 e5 c4 c3
          rw [ih k _ _ (i + 1) (by omega) (by omega) hb'.right (by omega) (by rw [List.length_append, List.length_singleton]; omega) (fun x hx => by
            rcases List.mem_append.1 hx with hx | hx
            · exact hby x hx
            · rw [List.mem_singleton.1 hx]; exact hv8.2)]
          have e9 : ∀ ds, take8 (v :: ds) o R = take8 ds (o ++ [val ((R ++ bits5 v).take 8)]) ((R ++ bits5 v).drop 8) := fun ds => by rw [take8, if_pos h8]
          simp only [e9]
        · rw [if_neg (by omega)]
          rw [ih k _ _ (i + 1) (by omega) (by omega) hL (by omega) (by omega) hby]
          have e9 : ∀ ds, take8 (v :: ds) o R = take8 ds o (R ++ bits5 v) := fun ds => by rw [take8, if_neg h8]
          simp only [e9]
    · exact ref_end s k o R i hi (by omega) (by omega) hby
theorem map_nat_inj {a b : List UInt8} (h : a.map (fun c => (c.toNat : Int)) = b.map (fun c => (c.toNat : Int))) : a = b := by
  induction a generalizing b with
  | nil => cases b with
    | nil => rfl
    | cons _ _ => simp at h
  | cons x a ih => cases b with
    | nil => simp at h
    | cons y b =>
      simp only [List.map_cons, List.cons.injEq] at h
      rw [ih h.2]
      congr 1
      exact UInt8.toNat_inj.1 (by omega)
theorem readOf_ref (s : ByteArray) : ((digits (bs s)).elim ([], 40) fun ds => finS s (take8 ds [] []).1) = readOf (bs s) := by
  unfold readOf
  cases h : digits (bs s) with
  | none => rfl
  | some ds =>
    have hb := read_back h
    have hm := (digits_of h).2.1
    have e : s.data.toList = ds.map sg := map_nat_inj (by rw [List.map_map]; exact hm.symm)
    show finS s (take8 ds [] []).1 = _
    unfold finS
    rw [e]
    by_cases hc : enc (bitsOf (take8 ds [] []).1) = ds.map sg
    · obtain ⟨h1, h2⟩ := hb.1 hc
      rw [if_pos hc]
      show _ = if 5 ≤ (take8 ds [] []).2.length then _ else _
      rw [if_neg (by omega), if_pos h2]
    · rw [if_neg hc]
      show _ = if 5 ≤ (take8 ds [] []).2.length then _ else _
      by_cases h1 : 5 ≤ (take8 ds [] []).2.length
      · rw [if_pos h1]
      · rw [if_neg h1]
        by_cases h2 : val (take8 ds [] []).2 = 0
        · exact absurd (hb.2 ⟨by omega, h2⟩) hc
        · rw [if_neg h2]
theorem refRead_is (s : ByteArray) (hs : s.size ≤ 10000) (k : Nat) (hk : 700000 < k) : coamingref04_Read.f k s = some (readOf (bs s)) := by
  unfold coamingref04_Read.f
  have h := ref_all s hs s.size k [] [] 0 (by omega) (by omega) (by intro b h; simp at h) (by simp) (by simp; omega) (by intro b h; simp at h)
  rw [show coamingref04_Read.l0 k s [] 0 0 0 = coamingref04_Read.l0 k s [] (val []) (([] : List Int).length : Nat) ((0 : Nat) : Int) from rfl, h, List.drop_zero, readOf_ref]
theorem readOf_ok (s : ByteArray) (h : (readOf (bs s)).2 = 0) : enc (bitsOf (readOf (bs s)).1) = s.data.toList ∧ Bytes (readOf (bs s)).1 ∧ (readOf (bs s)).1.length ≤ s.size := by
  rw [← readOf_ref] at h ⊢
  cases hd : digits (bs s) with
  | none => rw [hd] at h; cases h
  | some ds =>
    rw [hd] at h
    have h' : (finS s (take8 ds [] []).1).2 = 0 := h
    show enc (bitsOf (finS s (take8 ds [] []).1).1) = _ ∧ Bytes (finS s (take8 ds [] []).1).1 ∧ (finS s (take8 ds [] []).1).1.length ≤ _
    unfold finS at h' ⊢
    split at h'
    · rename_i hc
      obtain ⟨t1, t2, t3, t4, t5⟩ := take8_spec ds [] [] (by intro b h; simp at h) (by simp) (by intro b h; simp at h)
      rw [if_pos hc]
      have := (digits_of hd).2.2
      rw [bs_length] at this
      exact ⟨hc, t4, by simp at t5; show (take8 ds [] []).1.length ≤ _; omega⟩
    · cases h'
theorem readOf_code (l : List Int) : (readOf l).2 = 0 ∨ (readOf l).2 = 40 := by
  unfold readOf
  cases digits l with
  | none => exact .inr rfl
  | some ds =>
    have key : ∀ p : List Int × List Int, (finR p).2 = 0 ∨ (finR p).2 = 40 := by
      intro p
      unfold finR
      split
      · exact .inr rfl
      · split
        · exact .inl rfl
        · exact .inr rfl
    exact key (take8 ds [] [])
theorem bytes_of_wf {l : List Int} (h : ∀ x ∈ l, (Lit.int .u8 x).wf = true) : Bytes l := fun x hx => by
  have := h x hx
  simpa [Lit.wf, IntKind.min, IntKind.max, IntKind.signed, IntKind.bits] using this
end Go.Proofs.YtabdnlecpndfjaaDoor.Sp
set_option linter.unusedVariables false
set_option linter.unusedSimpArgs false
namespace Go.Proofs.YtabdnlecpndfjaaDoor.Sh
def rot (v : Int) (n : Nat) : Int := bits .or .u32 (IntKind.u32.wrap (v * 2 ^ (32 - n))) (v / 2 ^ n)
def m32 (x : Int) : Int := x % 4294967296
def s0 (a : Int) : Int := bits .xor .u32 (bits .xor .u32 (rot a 7) (rot a 18)) (a / 8)
def s1 (b : Int) : Int := bits .xor .u32 (bits .xor .u32 (rot b 17) (rot b 19)) (b / 1024)
def keys : List Int := [
  0x428a2f98, 0x71374491, 0xb5c0fbcf, 0xe9b5dba5, 0x3956c25b, 0x59f111f1, 0x923f82a4, 0xab1c5ed5,
  0xd807aa98, 0x12835b01, 0x243185be, 0x550c7dc3, 0x72be5d74, 0x80deb1fe, 0x9bdc06a7, 0xc19bf174,
  0xe49b69c1, 0xefbe4786, 0x0fc19dc6, 0x240ca1cc, 0x2de92c6f, 0x4a7484aa, 0x5cb0a9dc, 0x76f988da,
  0x983e5152, 0xa831c66d, 0xb00327c8, 0xbf597fc7, 0xc6e00bf3, 0xd5a79147, 0x06ca6351, 0x14292967,
  0x27b70a85, 0x2e1b2138, 0x4d2c6dfc, 0x53380d13, 0x650a7354, 0x766a0abb, 0x81c2c92e, 0x92722c85,
  0xa2bfe8a1, 0xa81a664b, 0xc24b8b70, 0xc76c51a3, 0xd192e819, 0xd6990624, 0xf40e3585, 0x106aa070,
  0x19a4c116, 0x1e376c08, 0x2748774c, 0x34b0bcb5, 0x391c0cb3, 0x4ed8aa4a, 0x5b9cca4f, 0x682e6ff3,
  0x748f82ee, 0x78a5636f, 0x84c87814, 0x8cc70208, 0x90befffa, 0xa4506ceb, 0xbef9a3f7, 0xc67178f2]
def four (p : List Int) (t : Nat) : Int := p.getD (4 * t) 0 * 16777216 + p.getD (4 * t + 1) 0 * 65536 + p.getD (4 * t + 2) 0 * 256 + p.getD (4 * t + 3) 0
def next (w : List Int) (t : Nat) : Int := m32 (m32 (m32 (w.getD (t - 16) 0 + s0 (w.getD (t - 15) 0)) + w.getD (t - 7) 0) + s1 (w.getD (t - 2) 0))
def words (p : List Int) : Nat → List Int
  | 0 => []
  | t + 1 => words p t ++ [if t < 16 then four p t else next (words p t) t]
def big1 (e : Int) : Int := bits .xor .u32 (bits .xor .u32 (rot e 6) (rot e 11)) (rot e 25)
def big0 (a : Int) : Int := bits .xor .u32 (bits .xor .u32 (rot a 2) (rot a 13)) (rot a 22)
def ch (e f g : Int) : Int := bits .xor .u32 (bits .and .u32 e f) (bits .andNot .u32 g e)
def maj (a b c : Int) : Int := bits .xor .u32 (bits .xor .u32 (bits .and .u32 a b) (bits .and .u32 a c)) (bits .and .u32 b c)
structure V where
  (a b c d e f g h : Int)
def V.x (v : V) (k w : Int) : Int := m32 (m32 (m32 (m32 (v.h + big1 v.e) + ch v.e v.f v.g) + k) + w)
def V.y (v : V) : Int := m32 (big0 v.a + maj v.a v.b v.c)
def V.rnd (v : V) (k w : Int) : V := ⟨m32 (v.x k w + v.y), v.a, v.b, v.c, m32 (v.d + v.x k w), v.e, v.f, v.g⟩
def V.list (v : V) : List Int := [v.a, v.b, v.c, v.d, v.e, v.f, v.g, v.h]
def V.add (v s : V) : V := ⟨m32 (s.a + v.a), m32 (s.b + v.b), m32 (s.c + v.c), m32 (s.d + v.d), m32 (s.e + v.e), m32 (s.f + v.f), m32 (s.g + v.g), m32 (s.h + v.h)⟩
def v0 : V := ⟨0x6a09e667, 0xbb67ae85, 0x3c6ef372, 0xa54ff53a, 0x510e527f, 0x9b05688c, 0x1f83d9ab, 0x5be0cd19⟩
def rounds (ws : List Int) (v : V) : Nat → V
  | 0 => v
  | t + 1 => (rounds ws v t).rnd (keys.getD t 0) (ws.getD t 0)
def comp (s : V) (p : List Int) : V := (rounds (words p 64) s 64).add s
def feed (bs : List Int) : Nat → V
  | 0 => v0
  | k + 1 => comp (feed bs k) ((bs.drop (64 * k)).take 64)
def state (bs : List Int) : V := feed bs (bs.length / 64)
def tail (bs : List Int) : List Int := bs.drop (64 * (bs.length / 64))
def be8 (x : Int) : List Int := (List.range 8).map fun i => x / 2 ^ (56 - 8 * i) % 256
def zeros (n : Nat) : Nat := (119 - n % 64) % 64
def padded (bs : List Int) : List Int := bs ++ [128] ++ List.replicate (zeros bs.length) 0 ++ be8 (bs.length * 8)
def outs (s : V) : List Int := (List.range 32).map fun i => s.list.getD (i / 4) 0 / 2 ^ (24 - i % 4 * 8) % 256
def dig (bs : List Int) : List Int := outs (state (padded bs))
abbrev Bytes (l : List Int) : Prop := ∀ x ∈ l, 0 ≤ x ∧ x ≤ 255
theorem words_length (p : List Int) (t : Nat) : (words p t).length = t := by
  induction t with
  | zero => rfl
  | succ t ih => simp [words, ih]
theorem words_prefix (p : List Int) (t k : Nat) (h : t ≤ k) : (words p k).take t = words p t := by
  induction k with
  | zero => obtain rfl : t = 0 := by omega
            rfl
  | succ k ih =>
    by_cases ht : t = k + 1
    · subst ht
      rw [List.take_of_length_le (by rw [words_length]; exact Nat.le_refl _)]
    · rw [words, List.take_append_of_le_length (by rw [words_length]; omega), ih (by omega)]
theorem words_at (p : List Int) (t k i : Nat) (h : t ≤ k) (hi : i < t) : (words p k).getD i 0 = (words p t).getD i 0 := by
  rw [← words_prefix p t k h, List.getD_eq_getElem?_getD, List.getD_eq_getElem?_getD, List.getElem?_take, if_pos hi]
theorem feed_app (bs c : List Int) (k : Nat) (h : 64 * k ≤ bs.length) : feed (bs ++ c) k = feed bs k := by
  induction k with
  | zero => rfl
  | succ k ih =>
    rw [feed, feed, ih (by omega), List.drop_append_of_le_length (by omega), List.take_append_of_le_length (by rw [List.length_drop]; omega)]
theorem tail_length (bs : List Int) : (tail bs).length = bs.length % 64 := by
  rw [tail, List.length_drop]; omega
theorem state_full (bs c : List Int) (h : bs.length % 64 + c.length = 64) : state (bs ++ c) = comp (state bs) (tail bs ++ c) ∧ tail (bs ++ c) = [] := by
  have e : (bs ++ c).length / 64 = bs.length / 64 + 1 := by rw [List.length_append]; omega
  constructor
  · unfold state
    rw [e, feed, feed_app _ _ _ (by omega), List.drop_append_of_le_length (by omega)]
    congr 1
    rw [List.take_of_length_le]
    · rfl
    · rw [List.length_append, List.length_drop]; omega
  · unfold tail
    rw [e]
    exact List.drop_of_length_le (by rw [List.length_append]; omega)
theorem state_part (bs c : List Int) (h : bs.length % 64 + c.length < 64) : state (bs ++ c) = state bs ∧ tail (bs ++ c) = tail bs ++ c := by
  have e : (bs ++ c).length / 64 = bs.length / 64 := by rw [List.length_append]; omega
  constructor
  · unfold state
    rw [e, feed_app _ _ _ (by omega)]
  · unfold tail
    rw [e, List.drop_append_of_le_length (by omega)]
theorem list_length (v : V) : v.list.length = 8 := rfl
theorem be8_length (x : Int) : (be8 x).length = 8 := by simp [be8]
theorem outs_length (s : V) : (outs s).length = 32 := by simp [outs]
theorem be8_bytes (x : Int) (h : 0 ≤ x) : Bytes (be8 x) := by
  intro y hy
  simp only [be8, List.mem_map] at hy
  obtain ⟨i, _, rfl⟩ := hy
  omega
theorem padded_bytes (bs : List Int) (h : Bytes bs) : Bytes (padded bs) := by
  intro y hy
  simp only [padded, List.mem_append, List.mem_cons, List.not_mem_nil, or_false, List.mem_replicate] at hy
  rcases hy with ((hy | rfl) | ⟨_, rfl⟩) | hy
  · exact h y hy
  · omega
  · omega
  · exact be8_bytes _ (by omega) y hy
theorem bits_or_comm (k : IntKind) (x y : Int) : bits .or k x y = bits .or k y x := by simp only [bits, BitVec.or_comm]
end Go.Proofs.YtabdnlecpndfjaaDoor.Sh
set_option linter.unusedVariables false
set_option linter.unusedSimpArgs false
namespace Go.Proofs.YtabdnlecpndfjaaDoor
open Go.RowKit Go.Proofs.YtabdnlecpndfjaaDoorW.PrintWords
namespace Sh
def u32s (l : List Int) : Array Value := (l.map (Value.int .u32)).toArray
def hc (s p : List Int) (n : Int) : Array Value := (s.map (Value.int .u32) ++ p.map (Value.int .u8) ++ [Value.int .u64 n]).toArray
theorem hc_sum (s p : List Int) (n : Int) (i : Nat) (hs : i < s.length) : (hc s p n)[i]? = some (.int .u32 (s.getD i 0)) := by
  simp [hc, List.getElem?_append, hs, List.getD_eq_getElem?_getD, List.getElem?_eq_getElem hs]
theorem hc_rest (s p : List Int) (n : Int) (i : Nat) (hs : i < p.length) : (hc s p n)[s.length + i]? = some (.int .u8 (p.getD i 0)) := by
  simp [hc, List.getElem?_append, hs, List.getD_eq_getElem?_getD, List.getElem?_eq_getElem hs]
theorem hc_rest' (s : V) (p : List Int) (n : Int) (i : Nat) {o : Nat} (ho : o = 8) (hs : i < p.length) : (hc s.list p n)[o + i]? = some (.int .u8 (p.getD i 0)) := by
  subst ho
  exact hc_rest s.list p n i hs
theorem u32s_at (l : List Int) (i : Nat) (h : i < l.length) : (u32s l)[i]? = some (.int .u32 (l.getD i 0)) := by
  simp [u32s, List.getD_eq_getElem?_getD, List.getElem?_eq_getElem h]
theorem hc_n (s p : List Int) (n : Int) : (hc s p n)[s.length + p.length]? = some (.int .u64 n) := by
  simp [hc, List.getElem?_append]
theorem cellAt {w : World} {b : Nat} {C : Array Value} {t : TypeId} {fr : Nat × Nat} (h : w.heap[b]? = some (.cells C t fr)) (i : Nat) (v : Value) (hv : C[i]? = some v) : w.cell? ⟨b, i, none⟩ = some v := by
  unfold World.cell?
  rw [h]
  exact hv
theorem frozenAt {w : World} {b : Nat} {C : Array Value} {t : TypeId} (h : w.heap[b]? = some (.cells C t (0, 0))) (i : Nat) : w.frozen? ⟨b, i, none⟩ = false := by
  unfold World.frozen?
  rw [h]
  simp
theorem gb_refl (w : World) (r : Option Nat) : w.grownBy w r := ⟨rfl, rfl, rfl, Nat.le_refl _, fun _ _ _ => rfl⟩
theorem gb_trans {a b c : World} {r : Option Nat} (h : a.grownBy b r) (k : b.grownBy c r) : a.grownBy c r :=
  ⟨k.os.trans h.os, k.tape.trans h.tape, k.output.trans h.output, Nat.le_trans h.size k.size, fun i hi hr => (k.block i (Nat.lt_of_lt_of_le hi h.size) hr).trans (h.block i hi hr)⟩
theorem gb_below {a b c : World} {r : Option Nat} (h : a.grownBy b r) (k : Below a.heap.size b c) : a.grownBy c r :=
  ⟨k.os.trans h.os, k.tape.trans h.tape, k.output.trans h.output, Nat.le_trans h.size k.size, fun i hi hr => (k.block i hi).trans (h.block i hi hr)⟩
theorem gb_of_below {a b : World} {r : Option Nat} (k : Below a.heap.size a b) : a.grownBy b r := gb_below (gb_refl a r) k
theorem gb_set {a b : World} {k : Nat} (h : a.grownBy b (some k)) (i : Nat) (v : Value) : a.grownBy (b.setCell ⟨k, i, none⟩ v) (some k) := by
  refine gb_trans h ⟨rfl, rfl, rfl, ?_, fun j hj hr => Below.heap_setCell _ _ _ _ (fun e => hr (by rw [e]))⟩
  exact ((Below.refl 0 b).setCell (p := ⟨k, i, none⟩) (Nat.zero_le _) v).size
theorem row_set {w : World} {b : Nat} {C : Array Value} {t : TypeId} (h : w.heap[b]? = some (.cells C t (0, 0))) (i : Nat) (v : Value) : (w.setCell ⟨b, i, none⟩ v).heap[b]? = some (.cells (C.setIfInBounds i v) t (0, 0)) :=
  heap_setCell_same w b i C t v h
theorem row_far {w : World} {b : Nat} {o : Obj} (h : w.heap[b]? = some o) (k : Nat) (hk : b ≠ k) (i : Nat) (v : Value) : (w.setCell ⟨k, i, none⟩ v).heap[b]? = some o :=
  (Below.heap_setCell _ _ _ _ hk).trans h
theorem ror_7 (v : Int) : PBase.sha_ror.f v 7 = some (rot v 7) := by kernel_rfl
theorem ror_18 (v : Int) : PBase.sha_ror.f v 18 = some (rot v 18) := by kernel_rfl
theorem ror_17 (v : Int) : PBase.sha_ror.f v 17 = some (rot v 17) := by kernel_rfl
theorem ror_19 (v : Int) : PBase.sha_ror.f v 19 = some (rot v 19) := by kernel_rfl
theorem ror_6 (v : Int) : PBase.sha_ror.f v 6 = some (rot v 6) := by kernel_rfl
theorem ror_11 (v : Int) : PBase.sha_ror.f v 11 = some (rot v 11) := by kernel_rfl
theorem ror_25 (v : Int) : PBase.sha_ror.f v 25 = some (rot v 25) := by kernel_rfl
theorem ror_2 (v : Int) : PBase.sha_ror.f v 2 = some (rot v 2) := by kernel_rfl
theorem ror_13 (v : Int) : PBase.sha_ror.f v 13 = some (rot v 13) := by kernel_rfl
theorem ror_22 (v : Int) : PBase.sha_ror.f v 22 = some (rot v 22) := by kernel_rfl
theorem reads_at {w : World} {b o : Nat} {C : Array Value} {e : TypeId} {fr : Nat × Nat} (h : w.heap[b]? = some (.cells C e fr)) (k : IntKind) (xs : List Int) (hC : ∀ j, j < xs.length → C[o + j]? = some (.int k (xs.getD j 0))) (hl : xs.length ≤ 9223372036854775807) : Kd.C (Kd.int k) w (some ⟨b, o, none⟩) xs.length xs := by
  refine Kd.C_of_reads (d := 0) ⟨rfl, hl, fun hn => ⟨_, rfl, fun j hj => ?_⟩⟩
  have e1 : (⟨b, o, none⟩ : Addr).add j = ⟨b, o + j, none⟩ := by unfold Addr.add; split <;> simp_all
  rw [e1]
  unfold World.cell?
  rw [h]
  exact hC j hj
theorem slice_rest (b o : Nat) (k : IntKind) (i : Int) (l : Nat) (hi : i = l) (hl : l < 64) (W : World) :
    (Instr.sliceAt 80 (.pointer (some ⟨b, o, none⟩)) (some (.int k i)) none none).run Tryd.prog W = .ok (.slice (some ⟨b, o + l, none⟩) (64 - l) (64 - l)) W := by
  subst hi
  rw [run_sliceAt_array_l W 80 ⟨b, o, none⟩ (by kernel_rfl) k (l : Int) (by omega) (by rw [show Tryd.prog.arrayLen 80 = 64 by kernel_rfl]; omega)]
  rw [show Tryd.prog.arrayLen 80 = 64 by kernel_rfl, show Tryd.prog.elem 80 = 5 by kernel_rfl]
  rw [show (sizeOf 5).run Tryd.prog W = .ok 1 W by kernel_rfl]
  simp only [Result.andThen, slicedAt, Int.toNat_natCast]
  rw [if_neg (by omega)]
  congr 3
  unfold Addr.add
  simp
theorem four_is (p : List Int) (t : Nat) (hp : p.length = 64) (ht : t < 16) (hb : Bytes p) : PBase.sha_four.f (p.drop (4 * t)) = some (four p t) := by
  have hl : (p.drop (4 * t)).length = 64 - 4 * t := by rw [List.length_drop, hp]
  unfold PBase.sha_four.f
  rw [if_pos (by omega), if_pos (by omega), if_pos (by omega), if_pos (by omega)]
  have hr : ∀ j : Nat, j < 4 → rd (p.drop (4 * t)) j = p.getD (4 * t + j) 0 ∧ 0 ≤ p.getD (4 * t + j) 0 ∧ p.getD (4 * t + j) 0 ≤ 255 := by
    intro j hj
    have h1 : 4 * t + j < p.length := by omega
    have h2 : p.getD (4 * t + j) 0 = p[4 * t + j] := by rw [List.getD_eq_getElem?_getD, List.getElem?_eq_getElem h1]; rfl
    refine ⟨?_, ?_⟩
    · simp [rd, List.getD_eq_getElem?_getD]
    · rw [h2]; exact hb _ (List.getElem_mem h1)
  obtain ⟨e0, a0, b0⟩ := hr 0 (by decide)
  obtain ⟨e1, a1, b1⟩ := hr 1 (by decide)
  obtain ⟨e2, a2, b2⟩ := hr 2 (by decide)
  obtain ⟨e3, a3, b3⟩ := hr 3 (by decide)
  rw [show rd (p.drop (4 * t)) 0 = p.getD (4 * t + 0) 0 from e0, show rd (p.drop (4 * t)) 1 = p.getD (4 * t + 1) 0 from e1, show rd (p.drop (4 * t)) 2 = p.getD (4 * t + 2) 0 from e2, show rd (p.drop (4 * t)) 3 = p.getD (4 * t + 3) 0 from e3]
  unfold four
  rw [Nat.add_zero] at *
  generalize p.getD (4 * t) 0 = x0 at *
  generalize p.getD (4 * t + 1) 0 = x1 at *
  generalize p.getD (4 * t + 2) 0 = x2 at *
  generalize p.getD (4 * t + 3) 0 = x3 at *
  rw [show x0 % 4294967296 * 16777216 % 4294967296 = x0 * 16777216 by omega, show x1 % 4294967296 * 65536 % 4294967296 = x1 * 65536 by omega, show x2 % 4294967296 * 256 % 4294967296 = x2 * 256 by omega, show x3 % 4294967296 = x3 by omega]
  rw [Bt.or_u32 24 (x0 * 16777216) (x1 * 65536) (by omega) (by omega) (by omega) (by omega) (by omega) (by omega)]
  rw [Bt.or_u32 16 (x0 * 16777216 + x1 * 65536) (x2 * 256) (by omega) (by omega) (by omega) (by omega) (by omega) (by omega)]
  rw [Bt.or_u32 8 (x0 * 16777216 + x1 * 65536 + x2 * 256) x3 (by omega) (by omega) (by omega) (by omega) (by omega) (by omega)]
end Sh
theorem sha_ror.quiet (v : Int) (n r : Int) (w : World) (h : PBase.sha_ror.f v n = some r) :
    Calls Tryd.prog 58 #[.int .u32 v, .int .i64 n] w fun e w' => e = .returned (.int .u32 r) ∧ ∃ m, w' = w.drewN m := (PBase.sha_ror.calls v n r w h).mono fun _ _ ⟨he, hd⟩ => ⟨he, hd.out⟩
end Go.Proofs.YtabdnlecpndfjaaDoor
set_option linter.unusedVariables false
set_option linter.unusedSimpArgs false
namespace Go.Proofs.YtabdnlecpndfjaaDoor
open Go.RowKit Go.Proofs.YtabdnlecpndfjaaDoorW.PrintWords Go.Proofs.YtabdnlecpndfjaaDoorW.PrintLast
namespace Sh
structure Mx (w : World) (hb : Nat) (C : Array Value) (p : List Int) (t : Nat) (B : Array Value) (ws : List Int) (wr : World) : Prop where
  h : wr.heap[hb]? = some (.cells C 103 (0, 0))
  bw : wr.heap[w.heap.size]? = some (.cells (u32s ws) 108 (0, 0))
  bv : wr.heap[w.heap.size + 1]? = some (.cells B 101 (0, 0))
  ks : ∀ i, i < 64 → wr.cell? ⟨0, i, none⟩ = some (.int .u32 (keys.getD i 0))
  g : Below w.heap.size w wr
  len : ws.length = 64
  wt : ws.take t = words p t
  lt : hb < w.heap.size
  hb0 : hb ≠ 0
theorem u32s_set (l : List Int) (i : Nat) (x : Int) : (u32s l).setIfInBounds i (.int .u32 x) = u32s (l.set i x) := by
  simp [u32s, List.map_set]
theorem quiet_then {P : Program} {f : FuncId} {args : Array Value} {W : World} {k a : Nat} {v : Value}
    (h : Calls P f args (W.drewN (k + a)) fun e w' => e = .returned v ∧ ∃ m, w' = (W.drewN (k + a)).drewN m) : Calls P f args (W.drewN (k + a)) fun e w'' => e = .returned v ∧ ∃ n, w'' = W.drewN (k + n) :=
  h.mono fun _ _ ⟨he, m, hm⟩ => ⟨he, a + m, by rw [hm, World.drewN_drewN, Nat.add_assoc]⟩
theorem getD_set_here (l : List Int) (i : Nat) (x : Int) (h : i < (l.set i x).length) : (l.set i x).getD i 0 = x := by
  rw [List.length_set] at h
  simp [List.getD_eq_getElem?_getD, List.getElem?_set, h]
theorem u32s_here (l : List Int) (i : Nat) (x : Int) (h : i < (l.set i x).length) : (u32s (l.set i x))[i]? = some (.int .u32 x) := by
  rw [u32s_at _ _ h]
  rw [List.length_set] at h
  simp [List.getD_eq_getElem?_getD, List.getElem?_set, h]
theorem Mx.drewN {w : World} {hb : Nat} {C : Array Value} {p : List Int} {t : Nat} {B : Array Value} {ws : List Int} {wr : World} (h : Mx w hb C p t B ws wr) (m : Nat) : Mx w hb C p t B ws (wr.drewN m) :=
  ⟨h.h, h.bw, h.bv, h.ks, ⟨h.g.os, h.g.tape, h.g.output, h.g.size, h.g.block⟩, h.len, h.wt, h.lt, h.hb0⟩
theorem Mx.drew {w : World} {hb : Nat} {C : Array Value} {p : List Int} {t : Nat} {B : Array Value} {ws : List Int} {wr : World} (h : Mx w hb C p t B ws wr) : Mx w hb C p t B ws wr.drew :=
  ⟨h.h, h.bw, h.bv, h.ks, ⟨h.g.os, h.g.tape, h.g.output, h.g.size, h.g.block⟩, h.len, h.wt, h.lt, h.hb0⟩
theorem Mx.far {w : World} {hb : Nat} {C : Array Value} {p : List Int} {t : Nat} {B : Array Value} {ws : List Int} {wr : World} (h : Mx w hb C p t B ws wr) (k i : Nat) (v : Value) (hk : w.heap.size ≤ k) : (wr.setCell ⟨k, i, none⟩ v).heap[hb]? = some (.cells C 103 (0, 0)) ∧ (∀ j, j < 64 → (wr.setCell ⟨k, i, none⟩ v).cell? ⟨0, j, none⟩ = some (.int .u32 (keys.getD j 0))) ∧ Below w.heap.size w (wr.setCell ⟨k, i, none⟩ v) := by
  refine ⟨row_far h.h k (by have := h.lt; omega) i v, fun j hj => ?_, h.g.setCell (p := ⟨k, i, none⟩) hk v⟩
  exact (World.cell?_of_block (Below.heap_setCell _ _ _ _ (by show 0 ≠ k; have := h.lt; omega))).trans (h.ks j hj)
theorem Mx.word {w : World} {hb : Nat} {C : Array Value} {p : List Int} {t : Nat} {B : Array Value} {ws : List Int} {wr : World} (h : Mx w hb C p t B ws wr) (ht : t < 64) (x : Int) (hx : x = if t < 16 then four p t else next (words p t) t) : Mx w hb C p (t + 1) B (ws.set t x) (wr.setCell ⟨w.heap.size, t, none⟩ (.int .u32 x)) := by
  obtain ⟨f1, f2, f3⟩ := h.far w.heap.size t (.int .u32 x) (Nat.le_refl _)
  refine ⟨f1, ?_, row_far h.bv _ (by omega) _ _, f2, f3, by rw [List.length_set]; exact h.len, ?_, h.lt, h.hb0⟩
  · rw [row_set h.bw, u32s_set]
  · rw [words, ← hx, ← h.wt, List.take_add_one, List.take_set_of_le (Nat.le_refl t)]
    simp [h.len, ht]
theorem set8 (a b c d e f g h x0 x1 x2 x3 x4 x5 x6 x7 : Int) : ((((((((u32s [a, b, c, d, e, f, g, h]).setIfInBounds 0 (.int .u32 x0)).setIfInBounds 1 (.int .u32 x1)).setIfInBounds 2 (.int .u32 x2)).setIfInBounds 3 (.int .u32 x3)).setIfInBounds 4 (.int .u32 x4)).setIfInBounds 5 (.int .u32 x5)).setIfInBounds 6 (.int .u32 x6)).setIfInBounds 7 (.int .u32 x7) = u32s [x0, x1, x2, x3, x4, x5, x6, x7] := by simp [u32s]
theorem Mx.vset {w : World} {hb : Nat} {C : Array Value} {p : List Int} {t : Nat} {B : Array Value} {ws : List Int} {wr : World} (h : Mx w hb C p t B ws wr) (i : Nat) (v : Value) : Mx w hb C p t (B.setIfInBounds i v) ws (wr.setCell ⟨w.heap.size + 1, i, none⟩ v) := by
  obtain ⟨f1, f2, f3⟩ := h.far (w.heap.size + 1) i v (Nat.le_succ _)
  exact ⟨f1, row_far h.bw _ (by omega) _ _, row_set h.bv i v, f2, f3, h.len, h.wt, h.lt, h.hb0⟩
theorem Mx.vec {w : World} {hb : Nat} {C : Array Value} {p : List Int} {s : V} {t : Nat} {v : V} {ws : List Int} {W : World} (h : Mx w hb C p (t + 1) (u32s v.list) ws W) (hv : rounds (words p 64) s t = v) (ht : t < 64) (kx x xa xe : Int) (hk : keys.getD t 0 = kx) (hx : ws.getD t 0 = x)
    (ha : xa = (v.rnd kx x).a) (he : xe = (v.rnd kx x).e) :
    Mx w hb C p (t + 1) (u32s (rounds (words p 64) s (t + 1)).list) ws ((((((((W.setCell ⟨w.heap.size + 1, 0, none⟩ (.int .u32 xa)).setCell ⟨w.heap.size + 1, 1, none⟩ (.int .u32 v.a)).setCell ⟨w.heap.size + 1, 2, none⟩ (.int .u32 v.b)).setCell ⟨w.heap.size + 1, 3, none⟩ (.int .u32 v.c)).setCell ⟨w.heap.size + 1, 4, none⟩ (.int .u32 xe)).setCell ⟨w.heap.size + 1, 5, none⟩ (.int .u32 v.e)).setCell ⟨w.heap.size + 1, 6, none⟩ (.int .u32 v.f)).setCell ⟨w.heap.size + 1, 7, none⟩ (.int .u32 v.g)) := by
  have hx2 : (words p 64).getD t 0 = x := by
    rw [words_at p (t + 1) 64 t (by omega) (by omega), ← h.wt, ← hx, List.getD_eq_getElem?_getD, List.getD_eq_getElem?_getD, List.getElem?_take, if_pos (by omega)]
  have e : rounds (words p 64) s (t + 1) = v.rnd kx x := by
    rw [rounds, hv, hk, hx2]
  have h8 := (((((((Mx.vset (B := u32s [v.a, v.b, v.c, v.d, v.e, v.f, v.g, v.h]) h 0 (.int .u32 xa)).vset 1 (.int .u32 v.a)).vset 2 (.int .u32 v.b)).vset 3 (.int .u32 v.c)).vset 4 (.int .u32 xe)).vset 5 (.int .u32 v.e)).vset 6 (.int .u32 v.f)).vset 7 (.int .u32 v.g)
  rw [set8] at h8
  have e2 : (v.rnd kx x).list = [xa, v.a, v.b, v.c, xe, v.e, v.f, v.g] := by unfold V.list; rw [ha, he]; rfl
  rw [e, e2]
  exact h8
structure M2 (w : World) (hb : Nat) (C B : Array Value) (wr : World) : Prop where
  h : wr.heap[hb]? = some (.cells C 103 (0, 0))
  bv : wr.heap[w.heap.size + 1]? = some (.cells B 101 (0, 0))
  g : w.grownBy wr (some hb)
  lt : hb < w.heap.size
theorem M2.set {w : World} {hb : Nat} {C B : Array Value} {wr : World} (h : M2 w hb C B wr) (i : Nat) (v : Value) : M2 w hb (C.setIfInBounds i v) B (wr.drew.setCell ⟨hb, i, none⟩ v) :=
  ⟨row_set (w := wr.drew) h.h i v, row_far (w := wr.drew) h.bv hb (by have := h.lt; omega) i v, gb_set (b := wr.drew) ⟨h.g.os, h.g.tape, h.g.output, h.g.size, h.g.block⟩ i v, h.lt⟩
def some8 (v s : V) (k : Nat) : List Int := (v.add s).list.take k ++ s.list.drop k
theorem some8_length (v s : V) (k : Nat) (hk : k ≤ 8) : (some8 v s k).length = 8 := by
  unfold some8; rw [List.length_append, List.length_take, List.length_drop, list_length, list_length]; omega
theorem some8_at (v s : V) (k : Nat) (hk : k < 8) : (some8 v s k).getD k 0 = s.list.getD k 0 ∧ (some8 v s k).set k (IntKind.u32.wrap (s.list.getD k 0 + v.list.getD k 0)) = some8 v s (k + 1) := by
  rw [IntKind.wrap_u32]
  match k, hk with
  | 0, _ => exact ⟨rfl, rfl⟩
  | 1, _ => exact ⟨rfl, rfl⟩
  | 2, _ => exact ⟨rfl, rfl⟩
  | 3, _ => exact ⟨rfl, rfl⟩
  | 4, _ => exact ⟨rfl, rfl⟩
  | 5, _ => exact ⟨rfl, rfl⟩
  | 6, _ => exact ⟨rfl, rfl⟩
  | 7, _ => exact ⟨rfl, rfl⟩
theorem hc_set (s p : List Int) (n : Int) (i : Nat) (x : Int) (h : i < s.length) : (hc s p n).setIfInBounds i (.int .u32 x) = hc (s.set i x) p n := by
  simp [hc, List.map_set, List.set_append, h]
end Sh
set_option maxHeartbeats 2000000 in
set_option maxRecDepth 100000 in
theorem mix_.calls (hb : Nat) (s : Sh.V) (p : List Int) (n : Int) (w : World) (hp : p.length = 64) (hby : Sh.Bytes p) (hh : w.heap[hb]? = some (.cells (Sh.hc s.list p n) 103 (0, 0))) (hb0 : hb ≠ 0)
    (hk : ∀ i, i < 64 → w.cell? ⟨0, i, none⟩ = some (.int .u32 (Sh.keys.getD i 0))) :
    Calls Tryd.prog 53 #[.pointer (some ⟨hb, 0, none⟩)] w fun e w' => e = .returned (.tuple #[]) ∧ w'.heap[hb]? = some (.cells (Sh.hc (Sh.comp s p).list p n) 103 (0, 0)) ∧ w.grownBy w' (some hb) := by
  have HH := Aside0.mk hh
  have HK := Aside0.mk hk
  have hlt : hb < w.heap.size := (Array.getElem?_eq_some_iff.1 hh).1
  clear hh hk
  have c0 : w.cell? ⟨hb, 0, none⟩ = some (.int .u32 s.a) := Sh.cellAt HH.out 0 _ (Sh.hc_sum s.list p n 0 (by rw [Sh.list_length]; decide))
  have c1 : w.cell? ⟨hb, 1, none⟩ = some (.int .u32 s.b) := Sh.cellAt HH.out 1 _ (Sh.hc_sum s.list p n 1 (by rw [Sh.list_length]; decide))
  have c2 : w.cell? ⟨hb, 2, none⟩ = some (.int .u32 s.c) := Sh.cellAt HH.out 2 _ (Sh.hc_sum s.list p n 2 (by rw [Sh.list_length]; decide))
  have c3 : w.cell? ⟨hb, 3, none⟩ = some (.int .u32 s.d) := Sh.cellAt HH.out 3 _ (Sh.hc_sum s.list p n 3 (by rw [Sh.list_length]; decide))
  have c4 : w.cell? ⟨hb, 4, none⟩ = some (.int .u32 s.e) := Sh.cellAt HH.out 4 _ (Sh.hc_sum s.list p n 4 (by rw [Sh.list_length]; decide))
  have c5 : w.cell? ⟨hb, 5, none⟩ = some (.int .u32 s.f) := Sh.cellAt HH.out 5 _ (Sh.hc_sum s.list p n 5 (by rw [Sh.list_length]; decide))
  have c6 : w.cell? ⟨hb, 6, none⟩ = some (.int .u32 s.g) := Sh.cellAt HH.out 6 _ (Sh.hc_sum s.list p n 6 (by rw [Sh.list_length]; decide))
  have c7 : w.cell? ⟨hb, 7, none⟩ = some (.int .u32 s.h) := Sh.cellAt HH.out 7 _ (Sh.hc_sum s.list p n 7 (by rw [Sh.list_length]; decide))
  go_enter Tryd.func53, Tryd.ntmps53
  go_wp2_with fail
  clear c0 c1 c2 c3 c4 c5 c6 c7
  go_loopw [16] (fun v16 wr => ∃ (t : Nat) (ws : List Int), v16 = .int .i64 t ∧ t ≤ 64 ∧ Aside0 (Sh.Mx w hb (Sh.hc s.list p n) p t (Sh.u32s (Sh.rounds (Sh.words p 64) s t).list) ws wr)) (fun i _ => 64 - (intOf i).toNat)
  case atStart =>
    refine ⟨0, List.replicate 64 0, rfl, by omega, ⟨?_⟩⟩
    refine ⟨?_, ?_, ?_, ?_, ?_, rfl, rfl, hlt, hb0⟩
    · exact (Below.heap_alloc _ _ _ (by show hb < (w.heap.push _).size; simp; omega)).trans ((Below.heap_alloc _ _ _ hlt).trans HH.out)
    · refine (Below.heap_alloc _ _ _ (by show w.heap.size < (w.heap.push _).size; simp)).trans ?_
      exact heap_alloc_new _ _
    · have := heap_alloc_new (w.alloc (.cells (Sh.u32s (List.replicate 64 0)) 108)) (.cells (Sh.u32s s.list) 101)
      have e : (w.alloc (.cells (Sh.u32s (List.replicate 64 0)) 108)).heap.size = w.heap.size + 1 := by show (w.heap.push _).size = _; simp
      rw [e] at this
      exact this
    · intro i hi
      exact (((below_alloc (below_alloc (Below.refl _ _) _) _).cell (World.block_lt_of_cell? w _ (HK.out i hi)))).trans (HK.out i hi)
    · exact below_alloc (below_alloc (Below.refl _ _) _) _
  case round =>
    obtain ⟨t, ws, rfl, ht, HM⟩ := hrel
    by_cases hlt : t < 64
    · by_cases h16 : t < 16
      · have hs := Sh.slice_rest hb 8 .i64 (4 * (t : Int)) (4 * t) (by omega) (by omega)
        have hlen : (p.drop (4 * t)).length = 64 - 4 * t := by rw [List.length_drop, hp]
        have HC := Aside0.mk (Sh.reads_at (o := 8 + 4 * t) HM.out.h .u8 (p.drop (4 * t)) (fun j hj => by rw [hlen] at hj; rw [Nat.add_assoc, Sh.hc_rest' _ _ _ _ rfl (by omega)]; simp [List.getD_eq_getElem?_getD]) (by omega))
        have HF := PBase.sha_four.calls (some ⟨hb, 8 + 4 * t, none⟩) (64 - 4 * t) (p.drop (4 * t)) (Sh.four p t) wr HC.out (by omega) (Sh.four_is p t hp h16 hby)
        rw [hlen] at HF
        have HF' := Aside0.mk HF
        clear HF HC
        have ct : wr.cell? ⟨w.heap.size, t, none⟩ = some (.int .u32 (ws.getD t 0)) := Sh.cellAt HM.out.bw _ _ (Sh.u32s_at _ _ (by rw [HM.out.len]; omega))
        have cf : wr.frozen? ⟨w.heap.size, t, none⟩ = false := Sh.frozenAt HM.out.bw t
        go_wp2_with fail
        refine HF'.out.mono ?_
        rintro e w1 ⟨rfl, hd⟩
        obtain ⟨m, rfl⟩ := hd.out
        clear hd HF'
        have HM2 := Aside0.mk (Sh.Mx.word (HM.out.drewN m) hlt (Sh.four p t) (by rw [if_pos h16]))
        go_wp2_with fail
        generalize Sh.four p t = x at *
        generalize (wr.drewN m).setCell ⟨w.heap.size, t, none⟩ (.int .u32 x) = W at *
        clear ct cf hs
        obtain ⟨v, HV⟩ : ∃ v, Aside0 (Sh.rounds (Sh.words p 64) s t = v) := ⟨_, ⟨rfl⟩⟩
        obtain ⟨kx, HKX⟩ : ∃ k, Aside0 (Sh.keys.getD t 0 = k) := ⟨_, ⟨rfl⟩⟩
        have b0 : W.cell? ⟨w.heap.size + 1, 0, none⟩ = some (.int .u32 v.a) := Sh.cellAt HM2.out.bv 0 _ (by rw [HV.out]; rfl)
        have b1 : W.cell? ⟨w.heap.size + 1, 1, none⟩ = some (.int .u32 v.b) := Sh.cellAt HM2.out.bv 1 _ (by rw [HV.out]; rfl)
        have b2 : W.cell? ⟨w.heap.size + 1, 2, none⟩ = some (.int .u32 v.c) := Sh.cellAt HM2.out.bv 2 _ (by rw [HV.out]; rfl)
        have b3 : W.cell? ⟨w.heap.size + 1, 3, none⟩ = some (.int .u32 v.d) := Sh.cellAt HM2.out.bv 3 _ (by rw [HV.out]; rfl)
        have b4 : W.cell? ⟨w.heap.size + 1, 4, none⟩ = some (.int .u32 v.e) := Sh.cellAt HM2.out.bv 4 _ (by rw [HV.out]; rfl)
        have b5 : W.cell? ⟨w.heap.size + 1, 5, none⟩ = some (.int .u32 v.f) := Sh.cellAt HM2.out.bv 5 _ (by rw [HV.out]; rfl)
        have b6 : W.cell? ⟨w.heap.size + 1, 6, none⟩ = some (.int .u32 v.g) := Sh.cellAt HM2.out.bv 6 _ (by rw [HV.out]; rfl)
        have b7 : W.cell? ⟨w.heap.size + 1, 7, none⟩ = some (.int .u32 v.h) := Sh.cellAt HM2.out.bv 7 _ (by rw [HV.out]; rfl)
        have f0 : W.frozen? ⟨w.heap.size + 1, 0, none⟩ = false := Sh.frozenAt HM2.out.bv 0
        have f1 : W.frozen? ⟨w.heap.size + 1, 1, none⟩ = false := Sh.frozenAt HM2.out.bv 1
        have f2 : W.frozen? ⟨w.heap.size + 1, 2, none⟩ = false := Sh.frozenAt HM2.out.bv 2
        have f3 : W.frozen? ⟨w.heap.size + 1, 3, none⟩ = false := Sh.frozenAt HM2.out.bv 3
        have f4 : W.frozen? ⟨w.heap.size + 1, 4, none⟩ = false := Sh.frozenAt HM2.out.bv 4
        have f5 : W.frozen? ⟨w.heap.size + 1, 5, none⟩ = false := Sh.frozenAt HM2.out.bv 5
        have f6 : W.frozen? ⟨w.heap.size + 1, 6, none⟩ = false := Sh.frozenAt HM2.out.bv 6
        have f7 : W.frozen? ⟨w.heap.size + 1, 7, none⟩ = false := Sh.frozenAt HM2.out.bv 7
        have bk : W.cell? ⟨0, t, none⟩ = some (.int .u32 kx) := by rw [← HKX.out]; exact HM2.out.ks t hlt
        have bx : W.cell? ⟨w.heap.size, t, none⟩ = some (.int .u32 x) := Sh.cellAt HM2.out.bw t _ (Sh.u32s_here ws t x (by rw [HM2.out.len]; exact hlt))
        go_wp2_with fail
        go_quiet (fail)
        go_wp2_with fail
        go_quiet (first | exact Sh.quiet_then (sha_ror.quiet _ _ _ _ (Sh.ror_6 _)) | exact Sh.quiet_then (sha_ror.quiet _ _ _ _ (Sh.ror_11 _)) | exact Sh.quiet_then (sha_ror.quiet _ _ _ _ (Sh.ror_25 _)))
        go_wp2_with fail
        go_quiet (first | exact Sh.quiet_then (sha_ror.quiet _ _ _ _ (Sh.ror_2 _)) | exact Sh.quiet_then (sha_ror.quiet _ _ _ _ (Sh.ror_13 _)) | exact Sh.quiet_then (sha_ror.quiet _ _ _ _ (Sh.ror_22 _)))
        go_wp2_with fail
        refine ⟨⟨t + 1, ws.set t x, rfl, by omega, ⟨?_⟩⟩, by simp [intOf]; omega⟩
        refine Sh.Mx.vec (s := s) (v := v) (HV.out ▸ HM2.out.drewN _) HV.out hlt kx x _ _ HKX.out ?_ ?_ ?_
        · exact Sh.getD_set_here ws t x (by rw [HM2.out.len]; exact hlt)
        · simp only [Sh.V.rnd, Sh.V.x, Sh.V.y, Sh.m32, Sh.big1, Sh.big0, Sh.ch, Sh.maj, Int.emod_add_emod, Int.add_emod_emod]
        · simp only [Sh.V.rnd, Sh.V.x, Sh.V.y, Sh.m32, Sh.big1, Sh.big0, Sh.ch, Sh.maj, Int.emod_add_emod, Int.add_emod_emod]
      · obtain ⟨a15, A15⟩ : ∃ a, Aside0 (a = t - 15) := ⟨_, ⟨rfl⟩⟩
        obtain ⟨a2, A2⟩ : ∃ a, Aside0 (a = t - 2) := ⟨_, ⟨rfl⟩⟩
        obtain ⟨a16, A16⟩ : ∃ a, Aside0 (a = t - 16) := ⟨_, ⟨rfl⟩⟩
        obtain ⟨a7, A7⟩ : ∃ a, Aside0 (a = t - 7) := ⟨_, ⟨rfl⟩⟩
        have k15 : (a15 : Int) < 64 := by have := A15.out; omega
        have k2 : (a2 : Int) < 64 := by have := A2.out; omega
        have k16 : (a16 : Int) < 64 := by have := A16.out; omega
        have k7 : (a7 : Int) < 64 := by have := A7.out; omega
        have i15 : wr.cell? ⟨w.heap.size, a15, none⟩ = some (.int .u32 (ws.getD a15 0)) := Sh.cellAt HM.out.bw _ _ (Sh.u32s_at _ _ (by rw [HM.out.len]; omega))
        have i2 : wr.cell? ⟨w.heap.size, a2, none⟩ = some (.int .u32 (ws.getD a2 0)) := Sh.cellAt HM.out.bw _ _ (Sh.u32s_at _ _ (by rw [HM.out.len]; omega))
        obtain ⟨x15, X15⟩ : ∃ x, Aside0 (ws.getD a15 0 = x) := ⟨_, ⟨rfl⟩⟩
        obtain ⟨x2, X2⟩ : ∃ x, Aside0 (ws.getD a2 0 = x) := ⟨_, ⟨rfl⟩⟩
        rw [X15.out] at i15
        rw [X2.out] at i2
        have w15 : IntKind.i64.wrap ((t : Int) - 15) = a15 := by have := A15.out; rw [IntKind.wrap_i64]; omega
        have w2 : IntKind.i64.wrap ((t : Int) - 2) = a2 := by have := A2.out; rw [IntKind.wrap_i64]; omega
        have w16 : IntKind.i64.wrap ((t : Int) - 16) = a16 := by have := A16.out; rw [IntKind.wrap_i64]; omega
        have w7 : IntKind.i64.wrap ((t : Int) - 7) = a7 := by have := A7.out; rw [IntKind.wrap_i64]; omega
        go_wp2_with fail
        go_quiet (fail)
        clear i15 i2 w15 w2 k15 k2
        have i16 : wr.cell? ⟨w.heap.size, a16, none⟩ = some (.int .u32 (ws.getD a16 0)) := Sh.cellAt HM.out.bw _ _ (Sh.u32s_at _ _ (by rw [HM.out.len]; omega))
        have i7 : wr.cell? ⟨w.heap.size, a7, none⟩ = some (.int .u32 (ws.getD a7 0)) := Sh.cellAt HM.out.bw _ _ (Sh.u32s_at _ _ (by rw [HM.out.len]; omega))
        obtain ⟨x16, X16⟩ : ∃ x, Aside0 (ws.getD a16 0 = x) := ⟨_, ⟨rfl⟩⟩
        obtain ⟨x7, X7⟩ : ∃ x, Aside0 (ws.getD a7 0 = x) := ⟨_, ⟨rfl⟩⟩
        rw [X16.out] at i16
        rw [X7.out] at i7
        have I16 := Aside0.mk (show (wr.drewN nq).drew.cell? ⟨w.heap.size, a16, none⟩ = some (.int .u32 x16) from i16)
        have I7 := Aside0.mk (show (wr.drewN nq).drew.cell? ⟨w.heap.size, a7, none⟩ = some (.int .u32 x7) from i7)
        clear i16 i7
        have ct : wr.cell? ⟨w.heap.size, t, none⟩ = some (.int .u32 (ws.getD t 0)) := Sh.cellAt HM.out.bw _ _ (Sh.u32s_at _ _ (by rw [HM.out.len]; omega))
        have cf : wr.frozen? ⟨w.heap.size, t, none⟩ = false := Sh.frozenAt HM.out.bw t
        have CT := Aside0.mk ct
        have CF := Aside0.mk cf
        clear ct cf
        go_wp2_with fail
        refine wp_region_noPanic ?_
        refine start_ (n := 30) (S := (fun w' => w'.cell? ⟨w.heap.size, a16, none⟩ = some (.int .u32 x16) ∧ w'.cell? ⟨w.heap.size, a7, none⟩ = some (.int .u32 x7))) (ds := [29]) #[false, false, false, false, false, false, false, false, false, false, false, false, false, false, false, false, false, false, false, false, false, false, false, false, false, false, false, false, false, false] (by kernel_rfl) rfl rfl ⟨I16.out, I7.out⟩ (fun hHeld => ?_)
        refine pure_ (i := 0) (N := (some 38)) (v := ?_) (a' := ?_) #[true, false, false, false, false, false, false, false, false, false, false, false, false, false, false, false, false, false, false, false, false, false, false, false, false, false, false, false, false, false] rfl rfl (by kernel_rfl) (fun _ _ _ h => h) (Or.inl ⟨by rfl, ?_⟩) ?_ ?_
        rotate_left
        · intro w'
          go_simp
          with_reducible rfl
        rotate_left
        · simp only [Act.put, List.setIfInBounds_toArray, List.set_cons_zero, List.set_cons_succ]
          rfl
        refine pure_ (i := 1) (N := (some 39)) (v := ?_) (a' := ?_) #[true, true, false, false, false, false, false, false, false, false, false, false, false, false, false, false, false, false, false, false, false, false, false, false, false, false, false, false, false, false] rfl rfl (by kernel_rfl) (fun _ _ _ h => h) (Or.inl ⟨by rfl, ?_⟩) ?_ ?_
        rotate_left
        · intro w'
          go_simp
          with_reducible rfl
        rotate_left
        · simp only [Act.put, List.setIfInBounds_toArray, List.set_cons_zero, List.set_cons_succ]
          rfl
        refine pure_ (i := 2) (N := (some 40)) (v := ?_) (a' := ?_) #[true, true, true, false, false, false, false, false, false, false, false, false, false, false, false, false, false, false, false, false, false, false, false, false, false, false, false, false, false, false] rfl rfl (by kernel_rfl) (fun _ _ _ h => h) (Or.inl ⟨by rfl, ?_⟩) ?_ ?_
        rotate_left
        · intro w'
          go_simp
          with_reducible rfl
        rotate_left
        · simp only [Act.put, List.setIfInBounds_toArray, List.set_cons_zero, List.set_cons_succ]
          rfl
        refine pure_ (i := 3) (N := (some 41)) (v := ?_) (a' := ?_) #[true, true, true, true, false, false, false, false, false, false, false, false, false, false, false, false, false, false, false, false, false, false, false, false, false, false, false, false, false, false] rfl rfl (by kernel_rfl) (fun _ _ _ h => h) (Or.inl ⟨by rfl, ?_⟩) ?_ ?_
        rotate_left
        · intro w'
          go_simp
          with_reducible rfl
        rotate_left
        · simp only [Act.put, List.setIfInBounds_toArray, List.set_cons_zero, List.set_cons_succ]
          rfl
        refine take_ (i := 4) (N := (some 42)) (v := ?_) (a' := ?_) #[true, true, true, true, true, false, false, false, false, false, false, false, false, false, false, false, false, false, false, false, false, false, false, false, false, false, false, false, false, false] rfl rfl (by kernel_rfl) (fun _ _ _ h => h) (Or.inl ⟨by rfl, ?_⟩) hHeld ?_ ?_
        rotate_left
        · intro w' hS'
          (obtain ⟨hS0, _⟩ := hS'; go_simp)
          with_reducible rfl
        rotate_left
        · simp only [Act.put, List.setIfInBounds_toArray, List.set_cons_zero, List.set_cons_succ]
          rfl
        refine pure_ (i := 5) (N := (some 43)) (v := ?_) (a' := ?_) #[true, true, true, true, true, true, false, false, false, false, false, false, false, false, false, false, false, false, false, false, false, false, false, false, false, false, false, false, false, false] rfl rfl (by kernel_rfl) (fun _ _ _ h => h) (Or.inl ⟨by rfl, ?_⟩) ?_ ?_
        rotate_left
        · intro w'
          go_simp
          with_reducible rfl
        rotate_left
        · simp only [Act.put, List.setIfInBounds_toArray, List.set_cons_zero, List.set_cons_succ]
          rfl
        refine pure_ (i := 7) (N := (some 45)) (v := ?_) (a' := ?_) #[true, true, true, true, true, true, false, true, false, false, false, false, false, false, false, false, false, false, false, false, false, false, false, false, false, false, false, false, false, false] rfl rfl (by kernel_rfl) (fun _ _ _ h => h) (Or.inl ⟨by rfl, ?_⟩) ?_ ?_
        rotate_left
        · intro w'
          go_simp
          with_reducible rfl
        rotate_left
        · simp only [Act.put, List.setIfInBounds_toArray, List.set_cons_zero, List.set_cons_succ]
          rfl
        refine pure_ (i := 10) (N := (some 48)) (v := ?_) (a' := ?_) #[true, true, true, true, true, true, false, true, false, false, true, false, false, false, false, false, false, false, false, false, false, false, false, false, false, false, false, false, false, false] rfl rfl (by kernel_rfl) (fun _ _ _ h => h) (Or.inl ⟨by rfl, ?_⟩) ?_ ?_
        rotate_left
        · intro w'
          go_simp
          with_reducible rfl
        rotate_left
        · simp only [Act.put, List.setIfInBounds_toArray, List.set_cons_zero, List.set_cons_succ]
          rfl
        refine pure_ (i := 11) (N := (some 49)) (v := ?_) (a' := ?_) #[true, true, true, true, true, true, false, true, false, false, true, true, false, false, false, false, false, false, false, false, false, false, false, false, false, false, false, false, false, false] rfl rfl (by kernel_rfl) (fun _ _ _ h => h) (Or.inl ⟨by rfl, ?_⟩) ?_ ?_
        rotate_left
        · intro w'
          go_simp
          with_reducible rfl
        rotate_left
        · simp only [Act.put, List.setIfInBounds_toArray, List.set_cons_zero, List.set_cons_succ]
          rfl
        refine pure_ (i := 14) (N := (some 52)) (v := ?_) (a' := ?_) #[true, true, true, true, true, true, false, true, false, false, true, true, false, false, true, false, false, false, false, false, false, false, false, false, false, false, false, false, false, false] rfl rfl (by kernel_rfl) (fun _ _ _ h => h) (Or.inl ⟨by rfl, ?_⟩) ?_ ?_
        rotate_left
        · intro w'
          go_simp
          with_reducible rfl
        rotate_left
        · simp only [Act.put, List.setIfInBounds_toArray, List.set_cons_zero, List.set_cons_succ]
          rfl
        refine pure_ (i := 15) (N := (some 53)) (v := ?_) (a' := ?_) #[true, true, true, true, true, true, false, true, false, false, true, true, false, false, true, true, false, false, false, false, false, false, false, false, false, false, false, false, false, false] rfl rfl (by kernel_rfl) (fun _ _ _ h => h) (Or.inl ⟨by rfl, ?_⟩) ?_ ?_
        rotate_left
        · intro w'
          go_simp
          with_reducible rfl
        rotate_left
        · simp only [Act.put, List.setIfInBounds_toArray, List.set_cons_zero, List.set_cons_succ]
          rfl
        refine pure_ (i := 16) (N := (some 54)) (v := ?_) (a' := ?_) #[true, true, true, true, true, true, false, true, false, false, true, true, false, false, true, true, true, false, false, false, false, false, false, false, false, false, false, false, false, false] rfl rfl (by kernel_rfl) (fun _ _ _ h => h) (Or.inl ⟨by rfl, ?_⟩) ?_ ?_
        rotate_left
        · intro w'
          go_simp
          with_reducible rfl
        rotate_left
        · simp only [Act.put, List.setIfInBounds_toArray, List.set_cons_zero, List.set_cons_succ]
          rfl
        refine take_ (i := 17) (N := (some 55)) (v := ?_) (a' := ?_) #[true, true, true, true, true, true, false, true, false, false, true, true, false, false, true, true, true, true, false, false, false, false, false, false, false, false, false, false, false, false] rfl rfl (by kernel_rfl) (fun _ _ _ h => h) (Or.inl ⟨by rfl, ?_⟩) hHeld ?_ ?_
        rotate_left
        · intro w' hS'
          (obtain ⟨_, hS1⟩ := hS'; go_simp)
          with_reducible rfl
        rotate_left
        · simp only [Act.put, List.setIfInBounds_toArray, List.set_cons_zero, List.set_cons_succ]
          rfl
        refine pure_ (i := 19) (N := (some 57)) (v := ?_) (a' := ?_) #[true, true, true, true, true, true, false, true, false, false, true, true, false, false, true, true, true, true, false, true, false, false, false, false, false, false, false, false, false, false] rfl rfl (by kernel_rfl) (fun _ _ _ h => h) (Or.inl ⟨by rfl, ?_⟩) ?_ ?_
        rotate_left
        · intro w'
          go_simp
          with_reducible rfl
        rotate_left
        · simp only [Act.put, List.setIfInBounds_toArray, List.set_cons_zero, List.set_cons_succ]
          rfl
        refine pure_ (i := 21) (N := (some 59)) (v := ?_) (a' := ?_) #[true, true, true, true, true, true, false, true, false, false, true, true, false, false, true, true, true, true, false, true, false, true, false, false, false, false, false, false, false, false] rfl rfl (by kernel_rfl) (fun _ _ _ h => h) (Or.inl ⟨by rfl, ?_⟩) ?_ ?_
        rotate_left
        · intro w'
          go_simp
          with_reducible rfl
        rotate_left
        · simp only [Act.put, List.setIfInBounds_toArray, List.set_cons_zero, List.set_cons_succ]
          rfl
        refine pure_ (i := 24) (N := (some 62)) (v := ?_) (a' := ?_) #[true, true, true, true, true, true, false, true, false, false, true, true, false, false, true, true, true, true, false, true, false, true, false, false, true, false, false, false, false, false] rfl rfl (by kernel_rfl) (fun _ _ _ h => h) (Or.inl ⟨by rfl, ?_⟩) ?_ ?_
        rotate_left
        · intro w'
          go_simp
          with_reducible rfl
        rotate_left
        · simp only [Act.put, List.setIfInBounds_toArray, List.set_cons_zero, List.set_cons_succ]
          rfl
        refine pure_ (i := 25) (N := (some 63)) (v := ?_) (a' := ?_) #[true, true, true, true, true, true, false, true, false, false, true, true, false, false, true, true, true, true, false, true, false, true, false, false, true, true, false, false, false, false] rfl rfl (by kernel_rfl) (fun _ _ _ h => h) (Or.inl ⟨by rfl, ?_⟩) ?_ ?_
        rotate_left
        · intro w'
          go_simp
          with_reducible rfl
        rotate_left
        · simp only [Act.put, List.setIfInBounds_toArray, List.set_cons_zero, List.set_cons_succ]
          rfl
        refine one_ (i := 6) (N := (some 44)) #[true, true, true, true, true, true, true, true, false, false, true, true, false, false, true, true, true, true, false, true, false, true, false, false, true, true, false, false, false, false] rfl rfl (by kernel_rfl) (by decide) (fun K hK => ?_)
        refine call_ 58 #[.int .u32 x15, .int .i64 7] (by rfl) rfl (by go_simp) ?_
        refine (sha_ror.quiet x15 7 _ _ (Sh.ror_7 _)).mono ?_
        rintro e w' ⟨rfl, m6, rfl⟩
        refine ⟨_, rfl, ?_⟩
        refine hK.out _ _ hHeld (fun hHeld => ?_)
        clear hK K
        refine norm_ (a' := ?_) ?_ ?_
        rotate_left
        · show Act.put _ (some 44) _ = _
          simp only [Act.put, List.setIfInBounds_toArray, List.set_cons_zero, List.set_cons_succ]
          rfl
        refine one_ (i := 8) (N := (some 46)) #[true, true, true, true, true, true, true, true, true, false, true, true, false, false, true, true, true, true, false, true, false, true, false, false, true, true, false, false, false, false] rfl rfl (by kernel_rfl) (by decide) (fun K hK => ?_)
        refine call_ 58 #[.int .u32 x15, .int .i64 18] (by rfl) rfl (by go_simp) ?_
        refine (sha_ror.quiet x15 18 _ _ (Sh.ror_18 _)).mono ?_
        rintro e w' ⟨rfl, m8, rfl⟩
        refine ⟨_, rfl, ?_⟩
        refine hK.out _ _ hHeld (fun hHeld => ?_)
        clear hK K
        refine norm_ (a' := ?_) ?_ ?_
        rotate_left
        · show Act.put _ (some 46) _ = _
          simp only [Act.put, List.setIfInBounds_toArray, List.set_cons_zero, List.set_cons_succ]
          rfl
        refine pure_ (i := 9) (N := (some 47)) (v := ?_) (a' := ?_) #[true, true, true, true, true, true, true, true, true, true, true, true, false, false, true, true, true, true, false, true, false, true, false, false, true, true, false, false, false, false] rfl rfl (by kernel_rfl) (fun _ _ _ h => h) (Or.inl ⟨by rfl, ?_⟩) ?_ ?_
        rotate_left
        · intro w'
          go_simp
          with_reducible rfl
        rotate_left
        · simp only [Act.put, List.setIfInBounds_toArray, List.set_cons_zero, List.set_cons_succ]
          rfl
        refine pure_ (i := 12) (N := (some 50)) (v := ?_) (a' := ?_) #[true, true, true, true, true, true, true, true, true, true, true, true, true, false, true, true, true, true, false, true, false, true, false, false, true, true, false, false, false, false] rfl rfl (by kernel_rfl) (fun _ _ _ h => h) (Or.inl ⟨by rfl, ?_⟩) ?_ ?_
        rotate_left
        · intro w'
          go_simp
          with_reducible rfl
        rotate_left
        · simp only [Act.put, List.setIfInBounds_toArray, List.set_cons_zero, List.set_cons_succ]
          rfl
        refine pure_ (i := 13) (N := (some 51)) (v := ?_) (a' := ?_) #[true, true, true, true, true, true, true, true, true, true, true, true, true, true, true, true, true, true, false, true, false, true, false, false, true, true, false, false, false, false] rfl rfl (by kernel_rfl) (fun _ _ _ h => h) (Or.inl ⟨by rfl, ?_⟩) ?_ ?_
        rotate_left
        · intro w'
          go_simp
          with_reducible rfl
        rotate_left
        · simp only [Act.put, List.setIfInBounds_toArray, List.set_cons_zero, List.set_cons_succ]
          rfl
        refine pure_ (i := 18) (N := (some 56)) (v := ?_) (a' := ?_) #[true, true, true, true, true, true, true, true, true, true, true, true, true, true, true, true, true, true, true, true, false, true, false, false, true, true, false, false, false, false] rfl rfl (by kernel_rfl) (fun _ _ _ h => h) (Or.inl ⟨by rfl, ?_⟩) ?_ ?_
        rotate_left
        · intro w'
          go_simp
          with_reducible rfl
        rotate_left
        · simp only [Act.put, List.setIfInBounds_toArray, List.set_cons_zero, List.set_cons_succ]
          rfl
        refine one_ (i := 20) (N := (some 58)) #[true, true, true, true, true, true, true, true, true, true, true, true, true, true, true, true, true, true, true, true, true, true, false, false, true, true, false, false, false, false] rfl rfl (by kernel_rfl) (by decide) (fun K hK => ?_)
        refine call_ 58 #[.int .u32 x2, .int .i64 17] (by rfl) rfl (by go_simp) ?_
        refine (sha_ror.quiet x2 17 _ _ (Sh.ror_17 _)).mono ?_
        rintro e w' ⟨rfl, m20, rfl⟩
        refine ⟨_, rfl, ?_⟩
        refine hK.out _ _ hHeld (fun hHeld => ?_)
        clear hK K
        refine norm_ (a' := ?_) ?_ ?_
        rotate_left
        · show Act.put _ (some 58) _ = _
          simp only [Act.put, List.setIfInBounds_toArray, List.set_cons_zero, List.set_cons_succ]
          rfl
        refine one_ (i := 22) (N := (some 60)) #[true, true, true, true, true, true, true, true, true, true, true, true, true, true, true, true, true, true, true, true, true, true, true, false, true, true, false, false, false, false] rfl rfl (by kernel_rfl) (by decide) (fun K hK => ?_)
        refine call_ 58 #[.int .u32 x2, .int .i64 19] (by rfl) rfl (by go_simp) ?_
        refine (sha_ror.quiet x2 19 _ _ (Sh.ror_19 _)).mono ?_
        rintro e w' ⟨rfl, m22, rfl⟩
        refine ⟨_, rfl, ?_⟩
        refine hK.out _ _ hHeld (fun hHeld => ?_)
        clear hK K
        refine norm_ (a' := ?_) ?_ ?_
        rotate_left
        · show Act.put _ (some 60) _ = _
          simp only [Act.put, List.setIfInBounds_toArray, List.set_cons_zero, List.set_cons_succ]
          rfl
        refine pure_ (i := 23) (N := (some 61)) (v := ?_) (a' := ?_) #[true, true, true, true, true, true, true, true, true, true, true, true, true, true, true, true, true, true, true, true, true, true, true, true, true, true, false, false, false, false] rfl rfl (by kernel_rfl) (fun _ _ _ h => h) (Or.inl ⟨by rfl, ?_⟩) ?_ ?_
        rotate_left
        · intro w'
          go_simp
          with_reducible rfl
        rotate_left
        · simp only [Act.put, List.setIfInBounds_toArray, List.set_cons_zero, List.set_cons_succ]
          rfl
        refine pure_ (i := 26) (N := (some 64)) (v := ?_) (a' := ?_) #[true, true, true, true, true, true, true, true, true, true, true, true, true, true, true, true, true, true, true, true, true, true, true, true, true, true, true, false, false, false] rfl rfl (by kernel_rfl) (fun _ _ _ h => h) (Or.inl ⟨by rfl, ?_⟩) ?_ ?_
        rotate_left
        · intro w'
          go_simp
          with_reducible rfl
        rotate_left
        · simp only [Act.put, List.setIfInBounds_toArray, List.set_cons_zero, List.set_cons_succ]
          rfl
        refine pure_ (i := 27) (N := (some 65)) (v := ?_) (a' := ?_) #[true, true, true, true, true, true, true, true, true, true, true, true, true, true, true, true, true, true, true, true, true, true, true, true, true, true, true, true, false, false] rfl rfl (by kernel_rfl) (fun _ _ _ h => h) (Or.inl ⟨by rfl, ?_⟩) ?_ ?_
        rotate_left
        · intro w'
          go_simp
          with_reducible rfl
        rotate_left
        · simp only [Act.put, List.setIfInBounds_toArray, List.set_cons_zero, List.set_cons_succ]
          rfl
        refine pure_ (i := 28) (N := (some 66)) (v := ?_) (a' := ?_) #[true, true, true, true, true, true, true, true, true, true, true, true, true, true, true, true, true, true, true, true, true, true, true, true, true, true, true, true, true, false] rfl rfl (by kernel_rfl) (fun _ _ _ h => h) (Or.inl ⟨by rfl, ?_⟩) ?_ ?_
        rotate_left
        · intro w'
          go_simp
          with_reducible rfl
        rotate_left
        · simp only [Act.put, List.setIfInBounds_toArray, List.set_cons_zero, List.set_cons_succ]
          rfl
        refine last_ (i := 29) (N := none) #[true, true, true, true, true, true, true, true, true, true, true, true, true, true, true, true, true, true, true, true, true, true, true, true, true, true, true, true, true, true] rfl rfl (by kernel_rfl) (by decide) (fun K hK => ?_)
        have ct := CT.out
        have cf := CF.out
        refine skip_ (w1 := (((((wr.drewN nq).drew.drewN m6).drewN m8).drewN m20).drewN m22).setCell ⟨w.heap.size, t, none⟩ (.int .u32 (IntKind.u32.wrap (IntKind.u32.wrap (IntKind.u32.wrap (x16 + bits .xor .u32 (bits .xor .u32 (Sh.rot x15 7) (Sh.rot x15 18)) (x15 / 8)) + x7) + bits .xor .u32 (bits .xor .u32 (Sh.rot x2 17) (Sh.rot x2 19)) (x2 / 1024))))) (by rfl) rfl (by go_simp) ?_
        clear ct cf
        refine hK.out _ _ ?_
        clear hK K
        refine done_ (by kernel_rfl) ?_
        have HM2 := Aside0.mk (Sh.Mx.word (((((HM.out.drewN nq).drew.drewN m6).drewN m8).drewN m20).drewN m22) hlt (IntKind.u32.wrap (IntKind.u32.wrap (IntKind.u32.wrap (x16 + bits .xor .u32 (bits .xor .u32 (Sh.rot x15 7) (Sh.rot x15 18)) (x15 / 8)) + x7) + bits .xor .u32 (bits .xor .u32 (Sh.rot x2 17) (Sh.rot x2 19)) (x2 / 1024))) (by
          rw [if_neg h16]
          have hw : ∀ a, a < t → (Sh.words p t).getD a 0 = ws.getD a 0 := by
            intro a ha
            rw [← HM.out.wt, List.getD_eq_getElem?_getD, List.getD_eq_getElem?_getD, List.getElem?_take, if_pos ha]
          have := A15.out
          have := A2.out
          have := A16.out
          have := A7.out
          unfold Sh.next
          rw [hw _ (by omega), hw _ (by omega), hw _ (by omega), hw _ (by omega), ← A15.out, ← A2.out, ← A16.out, ← A7.out, X15.out, X2.out, X16.out, X7.out]
          simp only [IntKind.wrap_u32, Sh.m32, Sh.s0, Sh.s1]))
        generalize IntKind.u32.wrap (IntKind.u32.wrap (IntKind.u32.wrap (x16 + bits .xor .u32 (bits .xor .u32 (Sh.rot x15 7) (Sh.rot x15 18)) (x15 / 8)) + x7) + bits .xor .u32 (bits .xor .u32 (Sh.rot x2 17) (Sh.rot x2 19)) (x2 / 1024)) = x at *
        generalize (((((wr.drewN nq).drew.drewN m6).drewN m8).drewN m20).drewN m22).setCell ⟨w.heap.size, t, none⟩ (.int .u32 x) = W at *
        clear CT CF I16 I7 A15 A2 A16 A7 X15 X2 X16 X7 w16 w7 k16 k7 hHeld
        refine NoPanic.normal ?_
        obtain ⟨v, HV⟩ : ∃ v, Aside0 (Sh.rounds (Sh.words p 64) s t = v) := ⟨_, ⟨rfl⟩⟩
        obtain ⟨kx, HKX⟩ : ∃ k, Aside0 (Sh.keys.getD t 0 = k) := ⟨_, ⟨rfl⟩⟩
        have b0 : W.cell? ⟨w.heap.size + 1, 0, none⟩ = some (.int .u32 v.a) := Sh.cellAt HM2.out.bv 0 _ (by rw [HV.out]; rfl)
        have b1 : W.cell? ⟨w.heap.size + 1, 1, none⟩ = some (.int .u32 v.b) := Sh.cellAt HM2.out.bv 1 _ (by rw [HV.out]; rfl)
        have b2 : W.cell? ⟨w.heap.size + 1, 2, none⟩ = some (.int .u32 v.c) := Sh.cellAt HM2.out.bv 2 _ (by rw [HV.out]; rfl)
        have b3 : W.cell? ⟨w.heap.size + 1, 3, none⟩ = some (.int .u32 v.d) := Sh.cellAt HM2.out.bv 3 _ (by rw [HV.out]; rfl)
        have b4 : W.cell? ⟨w.heap.size + 1, 4, none⟩ = some (.int .u32 v.e) := Sh.cellAt HM2.out.bv 4 _ (by rw [HV.out]; rfl)
        have b5 : W.cell? ⟨w.heap.size + 1, 5, none⟩ = some (.int .u32 v.f) := Sh.cellAt HM2.out.bv 5 _ (by rw [HV.out]; rfl)
        have b6 : W.cell? ⟨w.heap.size + 1, 6, none⟩ = some (.int .u32 v.g) := Sh.cellAt HM2.out.bv 6 _ (by rw [HV.out]; rfl)
        have b7 : W.cell? ⟨w.heap.size + 1, 7, none⟩ = some (.int .u32 v.h) := Sh.cellAt HM2.out.bv 7 _ (by rw [HV.out]; rfl)
        have f0 : W.frozen? ⟨w.heap.size + 1, 0, none⟩ = false := Sh.frozenAt HM2.out.bv 0
        have f1 : W.frozen? ⟨w.heap.size + 1, 1, none⟩ = false := Sh.frozenAt HM2.out.bv 1
        have f2 : W.frozen? ⟨w.heap.size + 1, 2, none⟩ = false := Sh.frozenAt HM2.out.bv 2
        have f3 : W.frozen? ⟨w.heap.size + 1, 3, none⟩ = false := Sh.frozenAt HM2.out.bv 3
        have f4 : W.frozen? ⟨w.heap.size + 1, 4, none⟩ = false := Sh.frozenAt HM2.out.bv 4
        have f5 : W.frozen? ⟨w.heap.size + 1, 5, none⟩ = false := Sh.frozenAt HM2.out.bv 5
        have f6 : W.frozen? ⟨w.heap.size + 1, 6, none⟩ = false := Sh.frozenAt HM2.out.bv 6
        have f7 : W.frozen? ⟨w.heap.size + 1, 7, none⟩ = false := Sh.frozenAt HM2.out.bv 7
        have bk : W.cell? ⟨0, t, none⟩ = some (.int .u32 kx) := by rw [← HKX.out]; exact HM2.out.ks t hlt
        have bx : W.cell? ⟨w.heap.size, t, none⟩ = some (.int .u32 x) := Sh.cellAt HM2.out.bw t _ (Sh.u32s_here ws t x (by rw [HM2.out.len]; exact hlt))
        go_wp2_with fail
        go_quiet (fail)
        go_wp2_with fail
        go_quiet (first | exact Sh.quiet_then (sha_ror.quiet _ _ _ _ (Sh.ror_6 _)) | exact Sh.quiet_then (sha_ror.quiet _ _ _ _ (Sh.ror_11 _)) | exact Sh.quiet_then (sha_ror.quiet _ _ _ _ (Sh.ror_25 _)))
        go_wp2_with fail
        go_quiet (first | exact Sh.quiet_then (sha_ror.quiet _ _ _ _ (Sh.ror_2 _)) | exact Sh.quiet_then (sha_ror.quiet _ _ _ _ (Sh.ror_13 _)) | exact Sh.quiet_then (sha_ror.quiet _ _ _ _ (Sh.ror_22 _)))
        go_wp2_with fail
        refine ⟨⟨t + 1, ws.set t x, rfl, by omega, ⟨?_⟩⟩, by simp [intOf]; omega⟩
        refine Sh.Mx.vec (s := s) (v := v) (HV.out ▸ HM2.out.drewN _) HV.out hlt kx x _ _ HKX.out ?_ ?_ ?_
        · exact Sh.getD_set_here ws t x (by rw [HM2.out.len]; exact hlt)
        · simp only [Sh.V.rnd, Sh.V.x, Sh.V.y, Sh.m32, Sh.big1, Sh.big0, Sh.ch, Sh.maj, Int.emod_add_emod, Int.add_emod_emod]
        · simp only [Sh.V.rnd, Sh.V.x, Sh.V.y, Sh.m32, Sh.big1, Sh.big0, Sh.ch, Sh.maj, Int.emod_add_emod, Int.add_emod_emod]
    · obtain rfl : t = 64 := by omega
      obtain ⟨v, HV⟩ : ∃ v, Aside0 (Sh.rounds (Sh.words p 64) s 64 = v) := ⟨_, ⟨rfl⟩⟩
      have HM1 : Aside0 (Sh.M2 w hb (Sh.hc (Sh.some8 v s 0) p n) (Sh.u32s v.list) wr) := ⟨⟨HM.out.h, by rw [← HV.out]; exact HM.out.bv, Sh.gb_of_below HM.out.g, HM.out.lt⟩⟩
      have HCO : Aside0 (Sh.comp s p = v.add s) := ⟨by rw [Sh.comp, HV.out]⟩
      clear HM HV ht hlt HH HK
      go_wp2_with fail
      go_loopw [143] (fun v143 wr => ∃ k : Nat, v143 = .int .i64 k ∧ k ≤ 8 ∧ Aside0 (Sh.M2 w hb (Sh.hc (Sh.some8 v s k) p n) (Sh.u32s v.list) wr)) (fun i _ => 8 - (intOf i).toNat)
      case atStart => exact ⟨0, rfl, by omega, HM1⟩
      case round =>
        clear HM1
        obtain ⟨k, rfl, hk, HM⟩ := hrel
        by_cases hlt : k < 8
        · have hl8 := Sh.some8_length v s k hk
          obtain ⟨e1, e2⟩ := Sh.some8_at v s k hlt
          have I1 : Aside0 (wr.drew.cell? ⟨hb, k, none⟩ = some (.int .u32 (s.list.getD k 0))) := ⟨by rw [← e1]; exact Sh.cellAt (w := wr.drew) HM.out.h k _ (Sh.hc_sum _ _ _ _ (by rw [hl8]; exact hlt))⟩
          have I2 : Aside0 (wr.drew.cell? ⟨w.heap.size + 1, k, none⟩ = some (.int .u32 (v.list.getD k 0))) := ⟨Sh.cellAt (w := wr.drew) HM.out.bv k _ (Sh.u32s_at _ _ (by rw [Sh.list_length]; exact hlt))⟩
          have CF : Aside0 (wr.drew.frozen? ⟨hb, k, none⟩ = false) := ⟨Sh.frozenAt (w := wr.drew) HM.out.h k⟩
          have E2 := Aside0.mk e2
          clear e1 e2 hl8
          generalize s.list.getD k 0 = y at *
          generalize v.list.getD k 0 = z at *
          go_wp2_with fail
          refine wp_region_noPanic ?_
          refine start_ (n := 14) (S := (fun w' => w'.cell? ⟨hb, k, none⟩ = some (.int .u32 y) ∧ w'.cell? ⟨w.heap.size + 1, k, none⟩ = some (.int .u32 z))) (ds := [13]) #[false, false, false, false, false, false, false, false, false, false, false, false, false, false] (by kernel_rfl) rfl rfl ⟨I1.out, I2.out⟩ (fun hHeld => ?_)
          refine pure_ (i := 0) (N := (some 146)) (v := ?_) (a' := ?_) #[true, false, false, false, false, false, false, false, false, false, false, false, false, false] rfl rfl (by kernel_rfl) (fun _ _ _ h => h) (Or.inl ⟨by rfl, ?_⟩) ?_ ?_
          rotate_left
          · intro w'
            go_simp
            with_reducible rfl
          rotate_left
          · simp only [Act.put, List.setIfInBounds_toArray, List.set_cons_zero, List.set_cons_succ]
            rfl
          refine pure_ (i := 1) (N := (some 147)) (v := ?_) (a' := ?_) #[true, true, false, false, false, false, false, false, false, false, false, false, false, false] rfl rfl (by kernel_rfl) (fun _ _ _ h => h) (Or.inl ⟨by rfl, ?_⟩) ?_ ?_
          rotate_left
          · intro w'
            go_simp
            with_reducible rfl
          rotate_left
          · simp only [Act.put, List.setIfInBounds_toArray, List.set_cons_zero, List.set_cons_succ]
            rfl
          refine pure_ (i := 2) (N := (some 148)) (v := ?_) (a' := ?_) #[true, true, true, false, false, false, false, false, false, false, false, false, false, false] rfl rfl (by kernel_rfl) (fun _ _ _ h => h) (Or.inl ⟨by rfl, ?_⟩) ?_ ?_
          rotate_left
          · intro w'
            go_simp
            with_reducible rfl
          rotate_left
          · simp only [Act.put, List.setIfInBounds_toArray, List.set_cons_zero, List.set_cons_succ]
            rfl
          refine pure_ (i := 3) (N := (some 149)) (v := ?_) (a' := ?_) #[true, true, true, true, false, false, false, false, false, false, false, false, false, false] rfl rfl (by kernel_rfl) (fun _ _ _ h => h) (Or.inl ⟨by rfl, ?_⟩) ?_ ?_
          rotate_left
          · intro w'
            go_simp
            with_reducible rfl
          rotate_left
          · simp only [Act.put, List.setIfInBounds_toArray, List.set_cons_zero, List.set_cons_succ]
            rfl
          refine pure_ (i := 4) (N := (some 150)) (v := ?_) (a' := ?_) #[true, true, true, true, true, false, false, false, false, false, false, false, false, false] rfl rfl (by kernel_rfl) (fun _ _ _ h => h) (Or.inl ⟨by rfl, ?_⟩) ?_ ?_
          rotate_left
          · intro w'
            go_simp
            with_reducible rfl
          rotate_left
          · simp only [Act.put, List.setIfInBounds_toArray, List.set_cons_zero, List.set_cons_succ]
            rfl
          refine take_ (i := 5) (N := (some 151)) (v := ?_) (a' := ?_) #[true, true, true, true, true, true, false, false, false, false, false, false, false, false] rfl rfl (by kernel_rfl) (fun _ _ _ h => h) (Or.inl ⟨by rfl, ?_⟩) hHeld ?_ ?_
          rotate_left
          · intro w' hS'
            (obtain ⟨hS0, _⟩ := hS'; go_simp)
            with_reducible rfl
          rotate_left
          · simp only [Act.put, List.setIfInBounds_toArray, List.set_cons_zero, List.set_cons_succ]
            rfl
          refine pure_ (i := 6) (N := (some 152)) (v := ?_) (a' := ?_) #[true, true, true, true, true, true, true, false, false, false, false, false, false, false] rfl rfl (by kernel_rfl) (fun _ _ _ h => h) (Or.inl ⟨by rfl, ?_⟩) ?_ ?_
          rotate_left
          · intro w'
            go_simp
            with_reducible rfl
          rotate_left
          · simp only [Act.put, List.setIfInBounds_toArray, List.set_cons_zero, List.set_cons_succ]
            rfl
          refine pure_ (i := 7) (N := (some 153)) (v := ?_) (a' := ?_) #[true, true, true, true, true, true, true, true, false, false, false, false, false, false] rfl rfl (by kernel_rfl) (fun _ _ _ h => h) (Or.inl ⟨by rfl, ?_⟩) ?_ ?_
          rotate_left
          · intro w'
            go_simp
            with_reducible rfl
          rotate_left
          · simp only [Act.put, List.setIfInBounds_toArray, List.set_cons_zero, List.set_cons_succ]
            rfl
          refine take_ (i := 8) (N := (some 154)) (v := ?_) (a' := ?_) #[true, true, true, true, true, true, true, true, true, false, false, false, false, false] rfl rfl (by kernel_rfl) (fun _ _ _ h => h) (Or.inl ⟨by rfl, ?_⟩) hHeld ?_ ?_
          rotate_left
          · intro w' hS'
            (obtain ⟨_, hS1⟩ := hS'; go_simp)
            with_reducible rfl
          rotate_left
          · simp only [Act.put, List.setIfInBounds_toArray, List.set_cons_zero, List.set_cons_succ]
            rfl
          refine pure_ (i := 9) (N := (some 155)) (v := ?_) (a' := ?_) #[true, true, true, true, true, true, true, true, true, true, false, false, false, false] rfl rfl (by kernel_rfl) (fun _ _ _ h => h) (Or.inl ⟨by rfl, ?_⟩) ?_ ?_
          rotate_left
          · intro w'
            go_simp
            with_reducible rfl
          rotate_left
          · simp only [Act.put, List.setIfInBounds_toArray, List.set_cons_zero, List.set_cons_succ]
            rfl
          refine pure_ (i := 10) (N := (some 156)) (v := ?_) (a' := ?_) #[true, true, true, true, true, true, true, true, true, true, true, false, false, false] rfl rfl (by kernel_rfl) (fun _ _ _ h => h) (Or.inl ⟨by rfl, ?_⟩) ?_ ?_
          rotate_left
          · intro w'
            go_simp
            with_reducible rfl
          rotate_left
          · simp only [Act.put, List.setIfInBounds_toArray, List.set_cons_zero, List.set_cons_succ]
            rfl
          refine pure_ (i := 11) (N := (some 157)) (v := ?_) (a' := ?_) #[true, true, true, true, true, true, true, true, true, true, true, true, false, false] rfl rfl (by kernel_rfl) (fun _ _ _ h => h) (Or.inl ⟨by rfl, ?_⟩) ?_ ?_
          rotate_left
          · intro w'
            go_simp
            with_reducible rfl
          rotate_left
          · simp only [Act.put, List.setIfInBounds_toArray, List.set_cons_zero, List.set_cons_succ]
            rfl
          refine pure_ (i := 12) (N := (some 158)) (v := ?_) (a' := ?_) #[true, true, true, true, true, true, true, true, true, true, true, true, true, false] rfl rfl (by kernel_rfl) (fun _ _ _ h => h) (Or.inl ⟨by rfl, ?_⟩) ?_ ?_
          rotate_left
          · intro w'
            go_simp
            with_reducible rfl
          rotate_left
          · simp only [Act.put, List.setIfInBounds_toArray, List.set_cons_zero, List.set_cons_succ]
            rfl
          refine last_ (i := 13) (N := none) #[true, true, true, true, true, true, true, true, true, true, true, true, true, true] rfl rfl (by kernel_rfl) (by decide) (fun K hK => ?_)
          have ct := I1.out
          have cf := CF.out
          refine skip_ (w1 := wr.drew.setCell ⟨hb, k, none⟩ (.int .u32 (IntKind.u32.wrap (y + z)))) (by rfl) rfl (by go_simp) ?_
          clear ct cf
          refine hK.out _ _ ?_
          clear hK K
          refine done_ (by kernel_rfl) ?_
          have HM2 : Aside0 (Sh.M2 w hb (Sh.hc (Sh.some8 v s (k + 1)) p n) (Sh.u32s v.list) (wr.drew.setCell ⟨hb, k, none⟩ (.int .u32 (IntKind.u32.wrap (y + z))))) := ⟨by
            have := HM.out.set k (.int .u32 (IntKind.u32.wrap (y + z)))
            rw [Sh.hc_set _ _ _ _ _ (by rw [Sh.some8_length v s k hk]; exact hlt), E2.out] at this
            exact this⟩
          clear HM I1 I2 CF E2 hHeld
          refine NoPanic.normal ?_
          go_wp2_with fail
          exact ⟨⟨k + 1, by go_num, by omega, HM2⟩, by simp [intOf]; omega⟩
        · obtain rfl : k = 8 := by omega
          go_wp2_with fail
          refine ⟨rfl, .tuple #[], by simp [results, Tryd.results53, go_sem], rfl, ?_, HM.out.g⟩
          rw [HCO.out]
          exact HM.out.h
end Go.Proofs.YtabdnlecpndfjaaDoor
set_option linter.unusedVariables false
set_option linter.unusedSimpArgs false
namespace Go.Proofs.YtabdnlecpndfjaaDoor
open Go.RowKit Go.Proofs.YtabdnlecpndfjaaDoorW.PrintWords Go.Proofs.YtabdnlecpndfjaaDoorW.PrintLast
namespace Sh
structure Ha (w : World) (b : Nat) (bs : List Int) (rest : List Int) : Prop where
  len : rest.length = 64
  tl : rest.take (bs.length % 64) = tail bs
  by_ : Bytes rest
  h : w.heap[b]? = some (.cells (hc (state bs).list rest bs.length) 103 (0, 0))
def Ks (w : World) : Prop := ∀ i, i < 64 → w.cell? ⟨0, i, none⟩ = some (.int .u32 (keys.getD i 0))
theorem Ks.far {w W : World} (h : Ks w) {hb : Nat} (hg : w.grownBy W (some hb)) (h0 : hb ≠ 0) : Ks W := fun i hi => hg.cell (h i hi) (fun e => h0 (Option.some.inj e).symm)
theorem Ks.below {w W : World} (h : Ks w) (hg : Below w.heap.size w W) : Ks W := fun i hi => (hg.cell (World.block_lt_of_cell? w _ (h i hi))).trans (h i hi)
theorem add_block (a : Addr) (j : Nat) : (a.add j).block = a.block := by unfold Addr.add; split <;> rfl
theorem add_add (a : Addr) (i j : Nat) : (a.add i).add j = a.add (i + j) := by
  by_cases hi : i = 0
  · subst hi; rw [Addr.add_zero', Nat.zero_add]
  · by_cases hj : j = 0
    · subst hj; rw [Addr.add_zero', Nat.add_zero]
    · simp [Addr.add, hi, hj, Nat.add_assoc]
theorem hc_splice (s : V) (rest c : List Int) (n : Int) (r : Nat) (h : r + c.length ≤ rest.length) : (splice (hc s.list rest n).toList (8 + r) (c.map (Value.int .u8))) = (hc s.list (rest.take r ++ c ++ rest.drop (r + c.length)) n).toList := by
  have h8 : s.list.length = 8 := rfl
  simp only [splice, hc, List.toList_toArray, List.length_map, List.append_assoc, List.map_append]
  rw [List.take_append, List.take_append, List.drop_append, List.drop_append]
  simp only [List.length_map, h8]
  rw [show 8 + r - 8 = r by omega, show 8 + r + c.length - 8 = r + c.length by omega, show r - rest.length = 0 by omega, show r + c.length - rest.length = 0 by omega, List.take_of_length_le (l := s.list.map _) (by rw [List.length_map, h8]; omega), List.drop_of_length_le (l := s.list.map _) (by rw [List.length_map, h8]; omega)]
  simp [List.map_take, List.map_drop]
theorem hc_setn (s : V) (rest : List Int) (n m : Int) (h : rest.length = 64) : (hc s.list rest n).setIfInBounds 72 (.int .u64 m) = hc s.list rest m := by
  have h8 : s.list.length = 8 := rfl
  simp only [hc, List.setIfInBounds_toArray]
  rw [List.set_append_right _ _ (by simp [h8, h])]
  simp [h8, h]
theorem cell_n {w : World} {b : Nat} {bs rest : List Int} (h : Ha w b bs rest) : w.cell? ⟨b, 72, none⟩ = some (.int .u64 bs.length) := by
  have := cellAt h.h (8 + rest.length) _ (hc_n (state bs).list rest bs.length)
  rw [h.len] at this
  exact this
theorem rest_put (bs rest c : List Int) (hl : rest.length = 64) (ht : rest.take (bs.length % 64) = tail bs) (hb : Bytes rest) (hc : Bytes c) (h : bs.length % 64 + c.length ≤ 64) :
    (rest.take (bs.length % 64) ++ c ++ rest.drop (bs.length % 64 + c.length)).length = 64 ∧ Bytes (rest.take (bs.length % 64) ++ c ++ rest.drop (bs.length % 64 + c.length)) ∧
    (rest.take (bs.length % 64) ++ c ++ rest.drop (bs.length % 64 + c.length)).take (bs.length % 64 + c.length) = tail bs ++ c := by
  refine ⟨by simp only [List.length_append, List.length_take, List.length_drop]; omega, ?_, ?_⟩
  · intro x hx
    simp only [List.mem_append] at hx
    rcases hx with (hx | hx) | hx
    · exact hb x (List.mem_of_mem_take hx)
    · exact hc x hx
    · exact hb x (List.mem_of_mem_drop hx)
  · rw [ht, List.take_left' (by rw [List.length_append, tail_length])]
theorem ha_next {w : World} {hb : Nat} (bs2 cs rest1 : List Int) (M : Nat) (hM : M = bs2.length + cs.length) (h64 : rest1.length = 64) (hby : Bytes rest1) (hle : bs2.length % 64 + cs.length ≤ 64) (hc0 : 0 < cs.length) (ht : rest1.take (bs2.length % 64 + cs.length) = tail bs2 ++ cs) :
    (M % 64 = 0 → w.heap[hb]? = some (.cells (hc (comp (state bs2) rest1).list rest1 M) 103 (0, 0)) → Ha w hb (bs2 ++ cs) rest1) ∧ (¬ M % 64 = 0 → w.heap[hb]? = some (.cells (hc (state bs2).list rest1 M) 103 (0, 0)) → Ha w hb (bs2 ++ cs) rest1) := by
  have hl : (bs2 ++ cs).length = M := by rw [List.length_append]; exact hM.symm
  constructor
  · intro h0 h
    have hf : bs2.length % 64 + cs.length = 64 := by omega
    obtain ⟨e1, e2⟩ := state_full bs2 cs hf
    have er : rest1 = tail bs2 ++ cs := by rw [← ht, hf, List.take_of_length_le (by omega)]
    refine ⟨h64, ?_, hby, ?_⟩
    · rw [hl, h0, e2]; rfl
    · rw [hl, e1, ← er]; exact h
  · intro h0 h
    have hf : bs2.length % 64 + cs.length < 64 := by omega
    obtain ⟨e1, e2⟩ := state_part bs2 cs hf
    refine ⟨h64, ?_, hby, ?_⟩
    · rw [hl, e2, ← ht, show M % 64 = bs2.length % 64 + cs.length by omega]
    · rw [hl, e1]; exact h
set_option maxRecDepth 100000 in
theorem copy_run {w : World} {g : Nat} {s : V} {rest : List Int} {n : Int} (ty : TypeId) (r m c1 c2 : Nat) (ad : Addr) (cs : List Int) (hg : w.heap[g]? = some (.cells (hc s.list rest n) 103 (0, 0))) (hl : rest.length = 64)
    (hn : cs.length = Nat.min m (64 - r)) (hr : r < 64) (hsrc : ∀ j, j < cs.length → w.cell? (ad.add j) = some (.int .u8 (cs.getD j 0))) :
    (Builtin.copy_ #[22, 22] ty #[.slice (some ⟨g, 8 + r, none⟩) (64 - r) c1, .slice (some ad) m c2]).run Tryd.prog w = .ok (goInt cs.length) (w.setRow g (hc s.list (rest.take r ++ cs ++ rest.drop (r + cs.length)) n)) := by
  have hle : r + cs.length ≤ 64 := by have : m.min (64 - r) ≤ 64 - r := Nat.min_le_right _ _; omega
  have hrun := run_copy_row (P := Tryd.prog) w 22 22 ty 5 g (8 + r) (64 - r) c1 ad m c2 (hc s.list rest n) 103 (cs.map (Value.int .u8)) (by kernel_rfl) (by kernel_rfl) hg (by rw [List.length_map]; exact hn)
    (fun j v hv => by
      rw [List.getElem?_map] at hv
      have hj : j < cs.length := by
        rcases Nat.lt_or_ge j cs.length with h | h
        · exact h
        · rw [List.getElem?_eq_none h] at hv; cases hv
      rw [hsrc j hj]
      rw [List.getElem?_eq_getElem hj] at hv
      rw [← hv, List.getD_eq_getElem?_getD, List.getElem?_eq_getElem hj]
      rfl)
    (by simp [hc, hl, list_length]; omega) (by intro v hv; simp only [List.mem_map] at hv; obtain ⟨x, _, rfl⟩ := hv; rfl)
  rw [hrun]
  rw [List.length_map]
  congr 2
  rw [List.append_assoc]
  have := hc_splice s rest cs n r (by rw [hl]; exact hle)
  unfold splice at this
  rw [List.length_map] at this
  rw [this]
theorem src {w wr : World} {ad : Addr} {l : List Int} {hb : Nat} (h : Kd.C (Kd.int .u8) w (some ad) l.length l) (hg : w.grownBy wr (some hb)) (hA : ad.block ≠ hb) (i : Nat) (hi : i < l.length) : wr.cell? (ad.add i) = some (.int .u8 (l.getD i 0)) := by
  obtain ⟨_, _, h3⟩ := Kd.reads_of_C (d := (0 : Int)) h
  obtain ⟨ad', e, hc⟩ := h3 (by omega)
  obtain rfl := Option.some.inj e
  exact hg.cell (hc i hi) (fun e2 => hA (by rw [← add_block ad i]; exact Option.some.inj e2))
theorem gb_row {a b : World} {k : Nat} (h : a.grownBy b (some k)) (cs : Array Value) : a.grownBy (b.setRow k cs) (some k) :=
  gb_trans h ⟨rfl, rfl, rfl, by simp [World.setRow], fun j hj hr => setRow_other b k j cs (fun e => hr (by rw [e]))⟩
theorem cut_run (w : World) (A : Option Addr) (m c : Nat) (k : Nat) (hk : k ≤ m) :
    (Instr.slice 22 (.slice A m c) (some (.int .i64 k)) none none).run Tryd.prog w = .ok (.slice (if c = k then A else A.map (·.add k)) (m - k) (c - k)) w := by
  rw [run_slice_l w 22 A m c (by kernel_rfl) .i64 k (by omega) (by omega)]
  rw [show Tryd.prog.elem 22 = 5 by kernel_rfl, show (sizeOf 5).run Tryd.prog w = .ok 1 w by kernel_rfl]
  simp [Result.andThen, sliced]
theorem cutAt_run (w : World) (A : Option Addr) (m c : Nat) (k : Nat) (hk : k ≤ m) :
    (Instr.sliceAt 22 (.slice A m c) (some (.int .i64 k)) none none).run Tryd.prog w = .ok (.slice (if c = k then A else A.map (·.add k)) (m - k) (c - k)) w := by
  rw [run_sliceAt_slice w _ _ _ _ _ (by kernel_rfl)]
  exact cut_run w A m c k hk
end Sh
set_option maxHeartbeats 2000000 in
set_option maxRecDepth 100000 in
theorem write_.calls (hb : Nat) (bs rest : List Int) (A : Option Addr) (c : Nat) (l : List Int) (w : World) (hH : Sh.Ha w hb bs rest) (hb0 : hb ≠ 0) (hk : Sh.Ks w) (hr : Kd.C (Kd.int .u8) w A l.length l) (hc : l.length ≤ c)
    (hA : 0 < l.length → ∀ a, A = some a → a.block ≠ hb) (hby : Sh.Bytes l) (hlen : bs.length + l.length ≤ 1099511627776) :
    Calls Tryd.prog 40 #[.pointer (some ⟨hb, 0, none⟩), .slice A l.length c] w fun e w' => e = .returned (.tuple #[]) ∧ (∃ rest', Sh.Ha w' hb (bs ++ l) rest') ∧ w.grownBy w' (some hb) := by
  have HK := Aside0.mk hk
  have HR := Aside0.mk hr
  have HA := Aside0.mk hA
  have HB := Aside0.mk hby
  have HH := Aside0.mk hH
  clear hk hr hA hby hH
  go_enter Tryd.func40, Tryd.ntmps40
  go_wp2_with fail
  go_loopw [1] (fun v1 wr => ∃ (j : Nat) (A' : Option Addr) (c' : Nat) (rest' : List Int), v1 = .slice A' (l.length - j) c' ∧ j ≤ l.length ∧ l.length - j ≤ c' ∧ Aside0 (j < l.length → ∃ ad, A = some ad ∧ A' = some (ad.add j)) ∧ Aside0 (Sh.Ha wr hb (bs ++ l.take j) rest') ∧ Aside0 (w.grownBy wr (some hb))) (fun v _ => match v with | .slice _ n _ => n | _ => 0)
  case atStart =>
    refine ⟨0, A, c, rest, rfl, by omega, by omega, ⟨fun hj => ?_⟩, ⟨by simpa using HH.out⟩, ⟨Sh.gb_refl _ _⟩⟩
    obtain ⟨ad, e, _⟩ := Kd.at_int HR.out 0 (by omega) (by omega)
    exact ⟨ad, e, by rw [e, Addr.add_zero']⟩
  case round =>
    clear HH
    obtain ⟨j, A', c', rest', rfl, hj, hc', HA', HH, HG⟩ := hrel
    by_cases hlt : j < l.length
    · obtain ⟨ad, e1, e2⟩ := HA'.out hlt
      subst e1; subst e2
      clear HA'
      obtain ⟨N, HN⟩ : ∃ N, Aside0 ((bs ++ l.take j).length = N) := ⟨_, ⟨rfl⟩⟩
      have hN : N ≤ 1099511627776 := by rw [← HN.out, List.length_append, List.length_take]; omega
      have HNJ : Aside0 (N = bs.length + j) := ⟨by rw [← HN.out, List.length_append, List.length_take]; omega⟩
      have cn := Sh.cell_n HH.out
      rw [HN.out] at cn
      have hs := Sh.slice_rest hb 8 .u64 ((N : Int).tmod 64) (N % 64) (by rw [Int.tmod_eq_emod_of_nonneg (by omega)]; omega) (by omega)
      obtain ⟨k, hkd⟩ : ∃ k, k = Nat.min (l.length - j) (64 - N % 64) := ⟨_, rfl⟩
      have hk1 : k ≤ l.length - j := by rw [hkd]; exact Nat.min_le_left _ _
      have hk2 : k ≤ 64 - N % 64 := by rw [hkd]; exact Nat.min_le_right _ _
      have hk0 : 0 < k := by rw [hkd]; exact Nat.lt_min.2 ⟨by omega, by omega⟩
      have hk3 : k = l.length - j ∨ k = 64 - N % 64 := by
        rw [hkd]
        rcases Nat.le_total (l.length - j) (64 - N % 64) with h | h
        · exact .inl (Nat.min_eq_left h)
        · exact .inr (Nat.min_eq_right h)
      have HKD := Aside0.mk hkd
      clear hkd
      obtain ⟨cs, HCS⟩ : ∃ cs, Aside0 ((l.drop j).take k = cs) := ⟨_, ⟨rfl⟩⟩
      have hcl : cs.length = k := by rw [← HCS.out, List.length_take, List.length_drop]; omega
      obtain ⟨st, HST⟩ : ∃ st, Aside0 (Sh.state (bs ++ l.take j) = st) := ⟨_, ⟨rfl⟩⟩
      have HST2 : Aside0 (wr.drew.heap[hb]? = some (.cells (Sh.hc st.list rest' N) 103 (0, 0))) := ⟨by
        have := HH.out.h
        rw [HN.out, HST.out] at this
        exact this⟩
      have HCC := Aside0.mk (Sh.copy_run (w := wr.drew) 3 (N % 64) (l.length - j) (64 - N % 64) c' (ad.add j) cs HST2.out HH.out.len (by rw [hcl, HKD.out]) (by omega) (fun i hi => by
        have := Sh.src HR.out HG.out (HA.out (by omega) ad rfl) (j + i) (by omega)
        rw [← Sh.add_add] at this
        refine Eq.trans this ?_
        rw [← HCS.out, List.getD_eq_getElem?_getD, List.getD_eq_getElem?_getD, List.getElem?_take, if_pos (by omega), List.getElem?_drop]))
      have CN := Aside0.mk (show wr.drew.cell? ⟨hb, 72, none⟩ = some (.int .u64 N) from cn)
      clear cn
      go_wp2_with fail
      refine wp_region_noPanic ?_
      refine start_ (n := 12) (S := (fun w' => w'.cell? ⟨hb, 72, none⟩ = some (.int .u64 N))) (ds := [10]) #[false, false, false, false, false, false, false, false, false, false, false, false] (by kernel_rfl) rfl rfl CN.out (fun hHeld => ?_)
      refine pure_ (i := 0) (N := (some 8)) (v := ?_) (a' := ?_) #[true, false, false, false, false, false, false, false, false, false, false, false] rfl rfl (by kernel_rfl) (fun _ _ _ h => h) (Or.inl ⟨by rfl, ?_⟩) ?_ ?_
      rotate_left
      · intro w'
        go_simp
        with_reducible rfl
      rotate_left
      · simp only [Act.put, List.setIfInBounds_toArray, List.set_cons_zero, List.set_cons_succ]
        rfl
      refine pure_ (i := 1) (N := (some 9)) (v := ?_) (a' := ?_) #[true, true, false, false, false, false, false, false, false, false, false, false] rfl rfl (by kernel_rfl) (fun _ _ _ h => h) (Or.inl ⟨by rfl, ?_⟩) ?_ ?_
      rotate_left
      · intro w'
        go_simp
        with_reducible rfl
      rotate_left
      · simp only [Act.put, List.setIfInBounds_toArray, List.set_cons_zero, List.set_cons_succ]
        rfl
      refine pure_ (i := 2) (N := (some 10)) (v := ?_) (a' := ?_) #[true, true, true, false, false, false, false, false, false, false, false, false] rfl rfl (by kernel_rfl) (fun _ _ _ h => h) (Or.inl ⟨by rfl, ?_⟩) ?_ ?_
      rotate_left
      · intro w'
        go_simp
        with_reducible rfl
      rotate_left
      · simp only [Act.put, List.setIfInBounds_toArray, List.set_cons_zero, List.set_cons_succ]
        rfl
      refine pure_ (i := 3) (N := (some 11)) (v := ?_) (a' := ?_) #[true, true, true, true, false, false, false, false, false, false, false, false] rfl rfl (by kernel_rfl) (fun _ _ _ h => h) (Or.inl ⟨by rfl, ?_⟩) ?_ ?_
      rotate_left
      · intro w'
        go_simp
        with_reducible rfl
      rotate_left
      · simp only [Act.put, List.setIfInBounds_toArray, List.set_cons_zero, List.set_cons_succ]
        rfl
      refine pure_ (i := 4) (N := (some 12)) (v := ?_) (a' := ?_) #[true, true, true, true, true, false, false, false, false, false, false, false] rfl rfl (by kernel_rfl) (fun _ _ _ h => h) (Or.inl ⟨by rfl, ?_⟩) ?_ ?_
      rotate_left
      · intro w'
        go_simp
        with_reducible rfl
      rotate_left
      · simp only [Act.put, List.setIfInBounds_toArray, List.set_cons_zero, List.set_cons_succ]
        rfl
      refine pure_ (i := 5) (N := (some 13)) (v := ?_) (a' := ?_) #[true, true, true, true, true, true, false, false, false, false, false, false] rfl rfl (by kernel_rfl) (fun _ _ _ h => h) (Or.inl ⟨by rfl, ?_⟩) ?_ ?_
      rotate_left
      · intro w'
        go_simp
        with_reducible rfl
      rotate_left
      · simp only [Act.put, List.setIfInBounds_toArray, List.set_cons_zero, List.set_cons_succ]
        rfl
      refine take_ (i := 6) (N := (some 14)) (v := ?_) (a' := ?_) #[true, true, true, true, true, true, true, false, false, false, false, false] rfl rfl (by kernel_rfl) (fun _ _ _ h => h) (Or.inl ⟨by rfl, ?_⟩) hHeld ?_ ?_
      rotate_left
      · intro w' hS'
        go_simp
        with_reducible rfl
      rotate_left
      · simp only [Act.put, List.setIfInBounds_toArray, List.set_cons_zero, List.set_cons_succ]
        rfl
      refine pure_ (i := 7) (N := (some 15)) (v := ?_) (a' := ?_) #[true, true, true, true, true, true, true, true, false, false, false, false] rfl rfl (by kernel_rfl) (fun _ _ _ h => h) (Or.inl ⟨by rfl, ?_⟩) ?_ ?_
      rotate_left
      · intro w'
        go_simp
        with_reducible rfl
      rotate_left
      · simp only [Act.put, List.setIfInBounds_toArray, List.set_cons_zero, List.set_cons_succ]
        rfl
      refine pure_ (i := 8) (N := (some 16)) (v := ?_) (a' := ?_) #[true, true, true, true, true, true, true, true, true, false, false, false] rfl rfl (by kernel_rfl) (fun _ _ _ h => h) (Or.inl ⟨by rfl, ?_⟩) ?_ ?_
      rotate_left
      · intro w'
        go_simp
        with_reducible rfl
      rotate_left
      · simp only [Act.put, List.setIfInBounds_toArray, List.set_cons_zero, List.set_cons_succ]
        rfl
      refine pure_ (i := 9) (N := (some 17)) (v := ?_) (a' := ?_) #[true, true, true, true, true, true, true, true, true, true, false, false] rfl rfl (by kernel_rfl) (fun _ _ _ h => h) (Or.inl ⟨by rfl, ?_⟩) ?_ ?_
      rotate_left
      · intro w'
        go_simp
        with_reducible rfl
      rotate_left
      · simp only [Act.put, List.setIfInBounds_toArray, List.set_cons_zero, List.set_cons_succ]
        rfl
      refine last_ (i := 10) (N := (some 18)) #[true, true, true, true, true, true, true, true, true, true, true, false] rfl rfl (by kernel_rfl) (by decide) (fun K hK => ?_)
      have hcc := HCC.out
      rw [hcl] at hcc
      refine value_ (w1 := wr.drew.setRow hb (Sh.hc st.list (rest'.take (N % 64) ++ cs ++ rest'.drop (N % 64 + k)) N)) (v := .int .i64 k) (by rfl) rfl (by simp [execOp, resolve, invoke, builtin, Act.eval, hcc, Result.andThen, goInt]) ?_
      clear hcc
      refine hK.out _ _ ?_
      clear hK K
      refine norm_ (a' := ?_) ?_ ?_
      rotate_left
      · show Act.put _ (some 18) _ = _
        simp only [Act.put, List.setIfInBounds_toArray, List.set_cons_zero, List.set_cons_succ]
        rfl
      refine pure_ (i := 11) (N := (some 4)) (v := ?_) (a' := ?_) #[true, true, true, true, true, true, true, true, true, true, true, true] rfl rfl (by kernel_rfl) (fun _ _ _ h => h) (Or.inl ⟨by rfl, ?_⟩) ?_ ?_
      rotate_left
      · intro w'
        go_simp
        with_reducible rfl
      rotate_left
      · simp only [Act.put, List.setIfInBounds_toArray, List.set_cons_zero, List.set_cons_succ]
        rfl
      refine done_ (by kernel_rfl) ?_
      obtain ⟨rest1, HR1⟩ : ∃ r, Aside0 (rest'.take (N % 64) ++ cs ++ rest'.drop (N % 64 + k) = r) := ⟨_, ⟨rfl⟩⟩
      rw [HR1.out]
      have H1 := Aside0.mk (show (wr.drew.setRow hb (Sh.hc st.list rest1 N)).heap[hb]? = some (.cells (Sh.hc st.list rest1 N) 103 (0, 0)) from setRow_heap wr.drew hb _ _ _ _ HST2.out)
      have G1 := Aside0.mk (show w.grownBy (wr.drew.setRow hb (Sh.hc st.list rest1 N)) (some hb) from Sh.gb_row (b := wr.drew) ⟨HG.out.os, HG.out.tape, HG.out.output, HG.out.size, HG.out.block⟩ _)
      generalize wr.drew.setRow hb (Sh.hc st.list rest1 N) = W1 at *
      have HR64 : rest1.length = 64 ∧ Sh.Bytes rest1 ∧ rest1.take (N % 64 + k) = Sh.tail (bs ++ l.take j) ++ cs := by
        have := Sh.rest_put (bs ++ l.take j) rest' cs HH.out.len HH.out.tl HH.out.by_ (fun x hx => HB.out x (List.mem_of_mem_drop (List.mem_of_mem_take (HCS.out ▸ hx)))) (by rw [HN.out, hcl]; omega)
        rw [HN.out, hcl, HR1.out] at this
        exact this
      clear HCC CN hs hHeld HST2
      obtain ⟨M, HMd⟩ : ∃ M, Aside0 (M = N + k) := ⟨_, ⟨rfl⟩⟩
      have hM : M = N + k := HMd.out
      have c1 : W1.cell? ⟨hb, 72, none⟩ = some (.int .u64 N) := by
        have := Sh.cellAt H1.out (8 + rest1.length) _ (Sh.hc_n st.list rest1 N)
        rw [HR64.1] at this
        exact this
      have f1 : W1.frozen? ⟨hb, 72, none⟩ = false := Sh.frozenAt H1.out 72
      have q1 := fun W => Sh.cut_run W (some (ad.add j)) (l.length - j) c' k hk1
      have q2 := fun W => Sh.cutAt_run W (some (ad.add j)) (l.length - j) c' k hk1
      obtain ⟨A2, HA2⟩ : ∃ A2, Aside0 ((if c' = k then some (ad.add j) else (some (ad.add j)).map (·.add k)) = A2) := ⟨_, ⟨rfl⟩⟩
      rw [HA2.out] at q1 q2
      have wk : IntKind.u64.wrap (k : Int) = k := Bt.wraps_u64 _ (by omega) (by omega)
      have wn : IntKind.u64.wrap ((N : Int) + k) = M := by rw [Bt.wraps_u64 _ (by omega) (by omega)]; omega
      have HW2 := Aside0.mk (show (W1.setCell ⟨hb, 72, none⟩ (.int .u64 M)).heap[hb]? = some (.cells (Sh.hc st.list rest1 M) 103 (0, 0)) from by rw [Sh.row_set H1.out, Sh.hc_setn _ _ _ _ HR64.1])
      have HTK : Aside0 (bs ++ l.take (j + k) = (bs ++ l.take j) ++ cs) := ⟨by rw [List.append_assoc, ← HCS.out, List.take_add]⟩
      have HML : Aside0 (M = (bs ++ l.take j).length + cs.length) := ⟨by rw [HN.out, hcl]; exact hM⟩
      clear hM
      by_cases hf : M % 64 = 0
      · have ht : (M : Int).tmod 64 = 0 := by rw [Int.tmod_eq_emod_of_nonneg (by omega)]; omega
        refine NoPanic.normal ?_
        go_wp2_with fail
        have HM := Aside0.mk (mix_.calls hb st rest1 M _ HR64.1 HR64.2.1 (HW2.out) hb0 (HK.out.far (Sh.gb_set G1.out 72 (.int .u64 M)) hb0))
        refine HM.out.mono ?_
        rintro e w3 ⟨rfl, h3, g3⟩
        have H3 := Aside0.mk h3
        have G3 := Aside0.mk (Sh.gb_trans (Sh.gb_set G1.out 72 (.int .u64 M)) g3)
        clear h3 g3 HM
        go_wp2_with fail
        refine ⟨⟨j + k, A2, c' - k, rest1, by rw [Nat.sub_sub], by omega, by omega, ⟨fun hjk => ?_⟩, ⟨?_⟩, ⟨?_⟩⟩, by show l.length - j - k < l.length - j; omega⟩
        · refine ⟨ad, rfl, ?_⟩
          rw [← HA2.out, if_neg (by omega)]
          show some ((ad.add j).add k) = _
          rw [Sh.add_add]
        · rw [HTK.out]
          exact (Sh.ha_next (bs ++ l.take j) cs rest1 M HML.out HR64.1 HR64.2.1 (by rw [HN.out, hcl]; omega) (by omega) (by rw [HN.out, hcl]; exact HR64.2.2)).1 hf (by rw [HST.out]; exact H3.out)
        · exact G3.out
      · have ht : ¬ (M : Int).tmod 64 = 0 := by rw [Int.tmod_eq_emod_of_nonneg (by omega)]; omega
        refine NoPanic.normal ?_
        go_wp2_with fail
        refine ⟨⟨j + k, A2, c' - k, rest1, by rw [Nat.sub_sub], by omega, by omega, ⟨fun hjk => ?_⟩, ⟨?_⟩, ⟨?_⟩⟩, by show l.length - j - k < l.length - j; omega⟩
        · refine ⟨ad, rfl, ?_⟩
          rw [← HA2.out, if_neg (by omega)]
          show some ((ad.add j).add k) = _
          rw [Sh.add_add]
        · rw [HTK.out]
          exact (Sh.ha_next (bs ++ l.take j) cs rest1 M HML.out HR64.1 HR64.2.1 (by rw [HN.out, hcl]; omega) (by omega) (by rw [HN.out, hcl]; exact HR64.2.2)).2 hf (by rw [HST.out]; exact HW2.out)
        · exact Sh.gb_set G1.out 72 (.int .u64 M)
    · obtain rfl : j = l.length := by omega
      go_wp2_with fail
      refine ⟨rfl, .tuple #[], by simp [results, Tryd.results40, go_sem], rfl, ⟨rest', ?_⟩, HG.out⟩
      have := HH.out
      rwa [List.take_length] at this
end Go.Proofs.YtabdnlecpndfjaaDoor
