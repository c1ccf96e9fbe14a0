-- PRINTED by print.py (a twelfth state) out of the translation. Not trusted: Lean checks it.
import Derived.Test.YtkpanpekoiadoaaPGreetWritesx0
import Derived.Test.YtkpanpekoiadoaaPGreetWritesx1
namespace Go.Proofs.Ytkpanpekoiadoaa.PGreetWrites
open Go.RowKit Go.Proofs.YtkpanpekoiadoaaW.PrintWords Go.Proofs.YtkpanpekoiadoaaW.PrintLast Go.Proofs.YtkpanpekoiadoaaW.PrintMore
attribute [local go_sem] max2_int min2_int max_two min_two max_three min_three max_four min_four   -- for this text's walks alone
set_option linter.unusedVariables false
set_option linter.unusedSimpArgs false

/-! ### coamingref07_Old: function 27 -/
def coamingref07_Old.l0 : Nat → Bool → List Int → Int → Option (List Int)
  | 0, _, _, _ => none
  | k + 1, x1, x5, x6 => if x6 < 124 then (if x1 = true then (some x5) else (if x5.length < 140737488355328 then (coamingref07_Old.l0 k x1 (x5 ++ [0]) (wrap64 (x6 + 1))) else (none))) else (some x5)
def coamingref07_Old.f (k : Nat) (a0_0 : Int) (a0_1 : Int) (a0_2 : Bool) (a1 : Bool) : Option (List Int) := (coamingref07_flags.f a0_0 a0_1 a0_2).bind fun t209 => ((coamingref06_Pack.f k (([8, 2] : List Int)) (([a0_1, t209] : List Int))).bind fun t213 => (coamingref07_Old.l0 k a1 t213 0))
theorem coamingref07_Old.mono_l : ∀ k, (∀ y0 y1 y2, LeO (coamingref07_Old.l0 k y0 y1 y2) (coamingref07_Old.l0 (k + 1) y0 y1 y2))
  | 0 => fun _ _ _ r h => by simp [coamingref07_Old.l0] at h
  | k + 1 => by
    have ih0 := coamingref07_Old.mono_l k
    · intro y0 y1 y2
      unfold coamingref07_Old.l0
      repeat' first
      | (with_reducible exact ih0 _ _ _)
      | (with_reducible exact coamingref06_Pack.mono _ _ _)
      | (with_reducible exact LeO.refl _)
      | (with_reducible exact LeO.none _)
      | (with_reducible refine LeO.ite ?_ ?_)
      | (with_reducible refine LeO.bind ?_ (fun _ => ?_))
      | exact ih0 _ _ _
      | exact coamingref06_Pack.mono _ _ _
      | exact LeO.none _
      | refine LeO.ite ?_ ?_
      | refine LeO.bind ?_ (fun _ => ?_)
theorem coamingref07_Old.mono : ∀ a0 a1 a2 a3 k, LeO (coamingref07_Old.f k a0 a1 a2 a3) (coamingref07_Old.f (k + 1) a0 a1 a2 a3) := by
  intro a0 a1 a2 a3 k
  have ih0 := coamingref07_Old.mono_l k
  unfold coamingref07_Old.f
  repeat' first
      | (with_reducible exact ih0 _ _ _)
      | (with_reducible exact coamingref06_Pack.mono _ _ _)
      | (with_reducible exact LeO.refl _)
      | (with_reducible exact LeO.none _)
      | (with_reducible refine LeO.ite ?_ ?_)
      | (with_reducible refine LeO.bind ?_ (fun _ => ?_))
      | exact ih0 _ _ _
      | exact coamingref06_Pack.mono _ _ _
      | exact LeO.none _
      | refine LeO.ite ?_ ?_
      | refine LeO.bind ?_ (fun _ => ?_)
def coamingref07_Old.T1 : Bool × List (List Nat × List Nat) := (true, [([], []), ([], []), ([1], [1]), ([], []), ([3], [3]), ([2, 4], [2, 4]), ([0, 5, 4], [0, 5]), ([6, 6, 0, 1, 2, 3, 4, 5, 6], [6])])
def coamingref07_Old.B1 : List Nat := [0, 0, 2, 0, 8, 30, 63, 127]
theorem coamingref07_Old.tab1 : rtab .any (opsOf Try.f27 1) = coamingref07_Old.T1 := by kernel_rfl
theorem coamingref07_Old.bits1 : waitsOk coamingref07_Old.T1.2 coamingref07_Old.B1 = true := by kernel_rfl
set_option maxHeartbeats 8000000 in
set_option maxRecDepth 100000 in
theorem coamingref07_Old.calls (k : Nat) (a0_0 : Int) (a0_1 : Int) (a0_2 : Bool) (a1 : Bool) (r : List Int) (w : World) (h : coamingref07_Old.f k a0_0 a0_1 a0_2 a1 = some r) :
    Calls Try.prog 27 #[.agg #[.int .u32 a0_0, .int .u64 a0_1, .bool a0_2], .bool a1] w fun e w' => ∃ v0_ : Value, e = .returned (v0_) ∧ Kd.R (Kd.int .u8) 5 w' w.heap.size (fun _ => True) v0_ r ∧ Below w.heap.size w w' := by
  have hu51 := Try.underlying51
  have HB := Aside0.mk (Below.refl w.heap.size w)
  have H : ((coamingref07_flags.f a0_0 a0_1 a0_2).bind fun t209 => ((coamingref06_Pack.f k (([8, 2] : List Int)) (([a0_1, t209] : List Int))).bind fun t213 => (coamingref07_Old.l0 k a1 t213 0))) = some r := h
  clear h
  obtain ⟨y206, hy206⟩ : ∃ y_ : List Int, y_ = (([8, 2] : List Int)) := ⟨_, rfl⟩
  replace H : ((coamingref07_flags.f a0_0 a0_1 a0_2).bind fun t209 => ((coamingref06_Pack.f k y206 (([a0_1, t209] : List Int))).bind fun t213 => (coamingref07_Old.l0 k a1 t213 0))) = some r := by first | (rw [hy206]; with_reducible exact H) | (have H2_ := (Option.bind_some _ _).symm.trans H; rw [hy206]; with_reducible exact H2_) | (have H2_ := (Option.bind_some _ _).symm.trans H; with_reducible exact H2_) | with_reducible exact H | (rw [hy206]; exact H) | exact H
  have Ny206 := Aside0.mk hy206
  clear hy206
  replace H := Option.bind_eq_some_iff.mp H
  obtain ⟨t209, A30, H⟩ := H
  replace H : ((coamingref06_Pack.f k y206 (([a0_1, t209] : List Int))).bind fun t213 => (coamingref07_Old.l0 k a1 t213 0)) = some r := H
  have A3 := Aside0.mk A30
  clear A30
  obtain ⟨y210, hy210⟩ : ∃ y_ : List Int, y_ = (([a0_1, t209] : List Int)) := ⟨_, rfl⟩
  replace H : ((coamingref06_Pack.f k y206 y210).bind fun t213 => (coamingref07_Old.l0 k a1 t213 0)) = some r := by first | (rw [hy210]; with_reducible exact H) | (have H2_ := (Option.bind_some _ _).symm.trans H; rw [hy210]; with_reducible exact H2_) | (have H2_ := (Option.bind_some _ _).symm.trans H; with_reducible exact H2_) | with_reducible exact H | (rw [hy210]; exact H) | exact H
  have Ny210 := Aside0.mk hy210
  clear hy210
  replace H := Option.bind_eq_some_iff.mp H
  obtain ⟨t213, A40, H⟩ := H
  replace H : (coamingref07_Old.l0 k a1 t213 0) = some r := H
  have A4 := Aside0.mk A40
  clear A40
  have H' := Aside0.mk H
  clear H
  go_enter Try.func27, Try.ntmps27
  try go_wp2_with (first | ((with_reducible refine gate_dst (N := 2) rfl ?_); refine box_event ?hg (N := 2) ?hd (cs := #[.int .u32 a0_0, .int .u64 a0_1, .bool a0_2]) (t := 51) ?hr ?_; (case hd => rfl); (case hg => rfl); (case hr => first | (go_simp; done) | (go_simp; rfl)); intro gb205 hg w5 hbox hb; have n0_ := Aside0.mk (below_step (by repeat (first | (with_reducible first | exact HB.out | apply below_alloc | apply pw_below_drewN | apply below_drew1) | exact HB.out)) hb); have n1_ := Aside0.mk (hbox); have n2_ := Aside0.mk ((by rw [hg]; exact (below_size (by repeat (first | (with_reducible first | exact HB.out | apply below_alloc | apply pw_below_drewN | apply below_drew1) | exact HB.out))) : w.heap.size ≤ gb205)); have n3_ := Aside0.mk ((by rw [hg]; exact (below_size (by repeat (first | (with_reducible first | exact HB.out | apply below_alloc | apply pw_below_drewN | apply below_drew1) | exact HB.out))) : w.heap.size ≤ gb205)); clear HB; have HB := n0_; have BK205 := n1_; have GW205 := n2_; have GE205 := n3_; clear n0_ n1_ n2_ n3_; clear hb hbox hg))
  have n0_ := Aside0.mk (blk_drew BK205.out)
  have n1_ := Aside0.mk (below_drew1 HB.out)
  clear BK205
  clear HB
  have BK205 := n0_
  have HB := n1_
  clear n0_ n1_
  refine start_ (n := 8) (S := fun w' => True) (ds := []) #[false, false, false, false, false, false, false, false] (by kernel_rfl) rfl rfl trivial (fun hHeld => ?_); refine with_tabW coamingref07_Old.tab1 coamingref07_Old.bits1 (fun HT_ HW_ => ?_)
  generalize w5.drew = w6 at BK205 HB hHeld ⊢
  refine pure_ (i := 1) (N := some 8) (v := ?_) (a' := ?_) #[false, true, false, false, false, false, false, false] rfl rfl (any_of HT_.out (by kernel_rfl)) (fun _ _ _ h => h) (Or.inl ⟨by rfl, ?_⟩) ?_ ?_
  rotate_left
  · intro w'
    go_simp
    with_reducible rfl
  rotate_left
  · simp only [Act.put, List.setIfInBounds_toArray, List.set_cons_zero, List.set_cons_succ, i64_w, i32_w]
    rfl
  refine inv_at [0, 2, 3, 4, 5, 6, 7] (fun a0_ b a w' => ∃ (v207 : Value) (v211 : Value) (v214 : Value) (m7_ : Value), a = putSel a0_ b [(0, 7, v207), (2, 9, .int .u64 a0_1), (3, 10, .agg #[.int .u32 a0_0, .int .u64 a0_1, .bool a0_2]), (4, 11, .int .u64 t209), (5, 12, v211), (6, 13, v214), (7, 5, m7_)] ∧ (w'.heap[gb205]? = some (.cells #[.int .u32 a0_0, .int .u64 a0_1, .bool a0_2] 51 (0, 0))) ∧ (Below w.heap.size w w') ∧ (b 0 = true → Kd.R (Kd.int .i64) 3 w' w.heap.size (fun _ => True) v207 y206) ∧ (b 5 = true → Kd.R (Kd.int .u64) 49 w' w.heap.size (fun _ => True) v211 y210) ∧ (b 6 = true → Kd.R (Kd.int .u8) 5 w' w.heap.size (fun _ => True) v214 t213) ∧ (b 7 = true → (m7_ : Value) = v214)) HT_.out HW_.out (by kernel_rfl) (by kernel_rfl) ?_ ?_ ?_
  · exact ⟨.bool false, .bool false, .bool false, .bool false, by simp only [putSel, Bool.false_eq_true, if_false], BK205.out, HB.out, fun h_ => absurd h_ (by decide), fun h_ => absurd h_ (by decide), fun h_ => absurd h_ (by decide), fun h_ => absurd h_ (by decide)⟩
  · skip
    clear BK205 HB
    refine steps_cons ?_ ?_
    · rintro b a w' ⟨v207, v211, v214, m7_, ha, Q_BK205, Q_HB, Q_HO208, Q_HO212, Q_HO215, Q_X7_⟩ hb_ hon hoff
      refine ⟨_, rfl, fun K hK => ?_⟩
      replace ha := Aside0.mk ha
      have BK205 := Aside0.mk Q_BK205
      have HB := Aside0.mk Q_HB
      refine Kd.R_lit_step (Kd.int .i64) _ 3 ?hg (N := 7) ?hd (xs := ([8, 2] : List Int)) (inner := [.int .i64 8, .int .i64 2]) (ok := fun _ => True) (okp := fun _ => True) ?hr ?hp (fun _ hk => hk) trivial (Below.refl _ _) (Nat.le_refl _) (by simp) ?_; (case hd => rfl); (case hg => rfl); (case hr => first | (go_simp; done) | (go_simp; rfl)); (case hp => exact (Reps.one (show Kd.M (Kd.int .i64) _ _ _ 8 [.int .i64 8] from rfl) (Reps.one (show Kd.M (Kd.int .i64) _ _ _ 2 [.int .i64 2] from rfl) (Reps.none _ _))))
      intro v207 w7 ho8 hb hg_ hnew_
      clear hg_ hnew_
      (first | rw [← Ny206.out] at ho8 | (simp only [Int.reduceToNat] at ho8; rw [← Ny206.out] at ho8))
      have n0_ := Aside0.mk (Kd.R_lower ho8 (below_size (by repeat (first | (with_reducible first | exact HB.out | apply below_alloc | apply pw_below_drewN | apply below_drew1 | refine below_set ?_ GE205.out) | exact HB.out))))
      have n1_ := Aside0.mk (blk_below (g := gb205) (o := .cells #[.int .u32 a0_0, .int .u64 a0_1, .bool a0_2] 51 (0, 0)) (by (with_reducible repeat (first | refine blk_drewN ?_ _ | refine blk_drew ?_ | refine blk_alloc ?_ _)); exact BK205.out) hb)
      have n2_ := Aside0.mk (below_step (by repeat (first | (with_reducible first | exact HB.out | apply below_alloc | apply pw_below_drewN | apply below_drew1 | refine below_set ?_ GE205.out) | exact HB.out)) hb)
      have z_HO212 := fun (h0_ : b 5 = true) => (show Kd.R (Kd.int .u64) 49 w7 w.heap.size (fun _ => True) v211 y210 from by first | exact (Kd.R_below (by (with_reducible repeat (first | apply Kd.R_alloc | apply Kd.R_drewN | apply Kd.R_drew)); exact (Q_HO212 h0_)) hb) | exact Kd.R_mono (Kd.R_below (by (with_reducible repeat (first | apply Kd.R_alloc | apply Kd.R_drewN | apply Kd.R_drew)); exact (Q_HO212 h0_)) hb) (fun _ h_ => by first | trivial | exact h_ | exact h_.1))
      clear BK205
      clear HB
      have HO208 := n0_
      have BK205 := n1_
      have HB := n2_
      clear n0_ n1_ n2_
      clear hb ho8
      refine hK.out _ _ ⟨v207, v211, v214, m7_, (by rw [ha.out]; exact putSel_upk 0 hb_ rfl rfl rfl), (by (with_reducible repeat (first | refine blk_drewN ?_ _ | refine blk_drew ?_ | refine blk_alloc ?_ _)); exact BK205.out), (by repeat (first | (with_reducible first | exact HB.out | apply below_alloc | apply pw_below_drewN | apply below_drew1 | refine below_set ?_ GE205.out) | exact HB.out)), fun _ => (by (with_reducible repeat (first | apply Kd.R_alloc | apply Kd.R_drewN | apply Kd.R_drew)); exact HO208.out), z_HO212, fun h0_ => absurd ((hoff 6 (by kernel_rfl)).symm.trans h0_) (by decide), fun h0_ => absurd ((hoff 7 (by kernel_rfl)).symm.trans h0_) (by decide)⟩
    refine steps_cons ?_ ?_
    · rintro b a w' ⟨v207, v211, v214, m7_, ha, Q_BK205, Q_HB, Q_HO208, Q_HO212, Q_HO215, Q_X7_⟩ hb_ hon hoff
      refine ⟨_, rfl, fun K hK => ?_⟩
      have e8 : a.tmps[8]? = some (.pointer (some ⟨gb205, 1, none⟩)) := by rw [ha]; exact (putSel_off rfl).trans rfl
      replace ha := Aside0.mk ha
      have BK205 := Aside0.mk Q_BK205
      have HB := Aside0.mk Q_HB
      have hc0_ : w'.cell? ⟨gb205, 0, none⟩ = some (.int .u32 a0_0) := (blk_cell BK205.out 0).trans rfl
      have hc1_ : w'.cell? ⟨gb205, 1, none⟩ = some (.int .u64 a0_1) := (blk_cell BK205.out 1).trans rfl
      have hc2_ : w'.cell? ⟨gb205, 2, none⟩ = some (.bool a0_2) := (blk_cell BK205.out 2).trans rfl
      refine value_ (w1 := w') (v := .int .u64 a0_1) (by rfl) rfl ?_ ?_
      · go_simp
        (try simp only [i64_w])
        try rfl
      refine hK.out _ _ ⟨v207, v211, v214, m7_, (by rw [ha.out]; exact putSel_upk 1 hb_ rfl rfl rfl), Q_BK205, Q_HB, Q_HO208, fun h0_ => absurd ((hoff 5 (by kernel_rfl)).symm.trans h0_) (by decide), fun h0_ => absurd ((hoff 6 (by kernel_rfl)).symm.trans h0_) (by decide), fun h0_ => absurd ((hoff 7 (by kernel_rfl)).symm.trans h0_) (by decide)⟩
    refine steps_cons ?_ ?_
    · rintro b a w' ⟨v207, v211, v214, m7_, ha, Q_BK205, Q_HB, Q_HO208, Q_HO212, Q_HO215, Q_X7_⟩ hb_ hon hoff
      refine ⟨_, rfl, fun K hK => ?_⟩
      have e2 : a.tmps[2]? = some (.pointer (some ⟨gb205, 0, none⟩)) := by rw [ha]; exact (putSel_off rfl).trans rfl
      replace ha := Aside0.mk ha
      have BK205 := Aside0.mk Q_BK205
      have HB := Aside0.mk Q_HB
      have hc0_ : w'.cell? ⟨gb205, 0, none⟩ = some (.int .u32 a0_0) := (blk_cell BK205.out 0).trans rfl
      have hc1_ : w'.cell? ⟨gb205, 1, none⟩ = some (.int .u64 a0_1) := (blk_cell BK205.out 1).trans rfl
      have hc2_ : w'.cell? ⟨gb205, 2, none⟩ = some (.bool a0_2) := (blk_cell BK205.out 2).trans rfl
      refine value_ (w1 := w') (v := .agg #[.int .u32 a0_0, .int .u64 a0_1, .bool a0_2]) (by rfl) rfl ?_ ?_
      · go_simp
        (try simp only [i64_w])
        try rfl
      refine hK.out _ _ ⟨v207, v211, v214, m7_, (by rw [ha.out]; exact putSel_upk 2 hb_ rfl rfl rfl), Q_BK205, Q_HB, Q_HO208, fun h0_ => absurd ((hoff 5 (by kernel_rfl)).symm.trans h0_) (by decide), fun h0_ => absurd ((hoff 6 (by kernel_rfl)).symm.trans h0_) (by decide), fun h0_ => absurd ((hoff 7 (by kernel_rfl)).symm.trans h0_) (by decide)⟩
    refine steps_cons ?_ ?_
    · rintro b a w' ⟨v207, v211, v214, m7_, ha, Q_BK205, Q_HB, Q_HO208, Q_HO212, Q_HO215, Q_X7_⟩ hb_ hon hoff
      refine ⟨_, rfl, fun K hK => ?_⟩
      have e10 : a.tmps[10]? = some (.agg #[.int .u32 a0_0, .int .u64 a0_1, .bool a0_2]) := by rw [ha]; exact putSel_on (e := (3, 10, .agg #[.int .u32 a0_0, .int .u64 a0_1, .bool a0_2])) 2 rfl rfl (hon 3 (by kernel_rfl)) rfl
      replace ha := Aside0.mk ha
      have BK205 := Aside0.mk Q_BK205
      have HB := Aside0.mk Q_HB
      refine goes_ Try.func34 (by kernel_rfl) rfl #[.agg #[.int .u32 a0_0, .int .u64 a0_1, .bool a0_2]] (by rfl) rfl rfl (by first | (simp only [List.map_toArray, List.map_cons, List.map_nil, Act.eval, Array.getD_eq_getD_getElem?, Option.getD_some, e10]; done) | (simp only [List.map_toArray, List.map_cons, List.map_nil, Act.eval, Array.getD_eq_getD_getElem?, Option.getD_some, e10]; rfl)) ?_
      with_reducible refine (coamingref07_flags.calls a0_0 a0_1 a0_2 t209 _ A3.out).mono ?_
      rintro e w7 ⟨rfl, hb⟩
      refine ⟨_, rfl, ?_⟩
      have n0_ := Aside0.mk (blk_below (g := gb205) (o := .cells #[.int .u32 a0_0, .int .u64 a0_1, .bool a0_2] 51 (0, 0)) (by (with_reducible repeat (first | refine blk_drewN ?_ _ | refine blk_drew ?_ | refine blk_alloc ?_ _)); exact BK205.out) hb)
      have n1_ := Aside0.mk (below_step (by repeat (first | (with_reducible first | exact HB.out | apply below_alloc | apply pw_below_drewN | apply below_drew1 | refine below_set ?_ GE205.out) | exact HB.out)) hb)
      have z_HO208 := fun (h0_ : b 0 = true) => (show Kd.R (Kd.int .i64) 3 w7 w.heap.size (fun _ => True) v207 y206 from by first | exact (Kd.R_below (by (with_reducible repeat (first | apply Kd.R_alloc | apply Kd.R_drewN | apply Kd.R_drew)); exact (Q_HO208 h0_)) hb) | exact Kd.R_mono (Kd.R_below (by (with_reducible repeat (first | apply Kd.R_alloc | apply Kd.R_drewN | apply Kd.R_drew)); exact (Q_HO208 h0_)) hb) (fun _ h_ => by first | trivial | exact h_ | exact h_.1))
      clear BK205
      clear HB
      have BK205 := n0_
      have HB := n1_
      clear n0_ n1_
      (try clear hb)
      (try clear hb2)
      (try clear hk)
      (try clear hi)
      refine hK.out _ _ ⟨v207, v211, v214, m7_, (by rw [ha.out]; exact putSel_upk 3 hb_ rfl rfl rfl), (by (with_reducible repeat (first | refine blk_drewN ?_ _ | refine blk_drew ?_ | refine blk_alloc ?_ _)); exact BK205.out), (by repeat (first | (with_reducible first | exact HB.out | apply below_alloc | apply pw_below_drewN | apply below_drew1 | refine below_set ?_ GE205.out) | exact HB.out)), z_HO208, fun h0_ => absurd ((hoff 5 (by kernel_rfl)).symm.trans h0_) (by decide), fun h0_ => absurd ((hoff 6 (by kernel_rfl)).symm.trans h0_) (by decide), fun h0_ => absurd ((hoff 7 (by kernel_rfl)).symm.trans h0_) (by decide)⟩
    refine steps_cons ?_ ?_
    · rintro b a w' ⟨v207, v211, v214, m7_, ha, Q_BK205, Q_HB, Q_HO208, Q_HO212, Q_HO215, Q_X7_⟩ hb_ hon hoff
      refine ⟨_, rfl, fun K hK => ?_⟩
      have e9 : a.tmps[9]? = some (.int .u64 a0_1) := by rw [ha]; exact putSel_on (e := (2, 9, .int .u64 a0_1)) 1 rfl rfl (hon 2 (by kernel_rfl)) rfl
      have e11 : a.tmps[11]? = some (.int .u64 t209) := by rw [ha]; exact putSel_on (e := (4, 11, .int .u64 t209)) 3 rfl rfl (hon 4 (by kernel_rfl)) rfl
      replace ha := Aside0.mk ha
      have BK205 := Aside0.mk Q_BK205
      have HB := Aside0.mk Q_HB
      refine Kd.R_lit_step (Kd.int .u64) _ 49 ?hg (N := 12) ?hd (xs := ([a0_1, t209] : List Int)) (inner := [.int .u64 a0_1, .int .u64 t209]) (ok := fun _ => True) (okp := fun _ => True) ?hr ?hp (fun _ hk => hk) trivial (Below.refl _ _) (Nat.le_refl _) (by simp) ?_; (case hd => rfl); (case hg => rfl); (case hr => first | (go_simp; done) | (go_simp; rfl)); (case hp => exact (Reps.one (show Kd.M (Kd.int .u64) _ _ _ a0_1 [.int .u64 a0_1] from rfl) (Reps.one (show Kd.M (Kd.int .u64) _ _ _ t209 [.int .u64 t209] from rfl) (Reps.none _ _))))
      intro v211 w9 ho10 hb hg_ hnew_
      clear hg_ hnew_
      (first | rw [← Ny210.out] at ho10 | (simp only [Int.reduceToNat] at ho10; rw [← Ny210.out] at ho10))
      have n0_ := Aside0.mk (Kd.R_lower ho10 (below_size (by repeat (first | (with_reducible first | exact HB.out | apply below_alloc | apply pw_below_drewN | apply below_drew1 | refine below_set ?_ GE205.out) | exact HB.out))))
      have n1_ := Aside0.mk (blk_below (g := gb205) (o := .cells #[.int .u32 a0_0, .int .u64 a0_1, .bool a0_2] 51 (0, 0)) (by (with_reducible repeat (first | refine blk_drewN ?_ _ | refine blk_drew ?_ | refine blk_alloc ?_ _)); exact BK205.out) hb)
      have n2_ := Aside0.mk (below_step (by repeat (first | (with_reducible first | exact HB.out | apply below_alloc | apply pw_below_drewN | apply below_drew1 | refine below_set ?_ GE205.out) | exact HB.out)) hb)
      have z_HO208 := fun (h0_ : b 0 = true) => (show Kd.R (Kd.int .i64) 3 w9 w.heap.size (fun _ => True) v207 y206 from by first | exact (Kd.R_below (by (with_reducible repeat (first | apply Kd.R_alloc | apply Kd.R_drewN | apply Kd.R_drew)); exact (Q_HO208 h0_)) hb) | exact Kd.R_mono (Kd.R_below (by (with_reducible repeat (first | apply Kd.R_alloc | apply Kd.R_drewN | apply Kd.R_drew)); exact (Q_HO208 h0_)) hb) (fun _ h_ => by first | trivial | exact h_ | exact h_.1))
      clear BK205
      clear HB
      have HO212 := n0_
      have BK205 := n1_
      have HB := n2_
      clear n0_ n1_ n2_
      clear hb ho10
      refine hK.out _ _ ⟨v207, v211, v214, m7_, (by rw [ha.out]; exact putSel_upk 4 hb_ rfl rfl rfl), (by (with_reducible repeat (first | refine blk_drewN ?_ _ | refine blk_drew ?_ | refine blk_alloc ?_ _)); exact BK205.out), (by repeat (first | (with_reducible first | exact HB.out | apply below_alloc | apply pw_below_drewN | apply below_drew1 | refine below_set ?_ GE205.out) | exact HB.out)), z_HO208, fun _ => (by (with_reducible repeat (first | apply Kd.R_alloc | apply Kd.R_drewN | apply Kd.R_drew)); exact HO212.out), fun h0_ => absurd ((hoff 6 (by kernel_rfl)).symm.trans h0_) (by decide), fun h0_ => absurd ((hoff 7 (by kernel_rfl)).symm.trans h0_) (by decide)⟩
    refine steps_cons ?_ ?_
    · rintro b a w' ⟨v207, v211, v214, m7_, ha, Q_BK205, Q_HB, Q_HO208, Q_HO212, Q_HO215, Q_X7_⟩ hb_ hon hoff
      refine ⟨_, rfl, fun K hK => ?_⟩
      have e7 : a.tmps[7]? = some (v207) := by rw [ha]; exact putSel_on (e := (0, 7, v207)) 0 rfl rfl (hon 0 (by kernel_rfl)) rfl
      have e12 : a.tmps[12]? = some (v211) := by rw [ha]; exact putSel_on (e := (5, 12, v211)) 4 rfl rfl (hon 5 (by kernel_rfl)) rfl
      replace ha := Aside0.mk ha
      have BK205 := Aside0.mk Q_BK205
      have HB := Aside0.mk Q_HB
      have HO208 := Aside0.mk (Q_HO208 (hon 0 (by kernel_rfl)))
      have HO212 := Aside0.mk (Q_HO212 (hon 5 (by kernel_rfl)))
      obtain ⟨Ao13, co13, eo13⟩ := Kd.R_slice HO208.out
      (first | subst eo13 | (injection eo13 with f1_ f2_ f3_; have f4_ := f1_.symm; have f5_ := f3_.symm; clear f1_ f2_ f3_; subst f4_; subst f5_))
      obtain ⟨Ao14, co14, eo14⟩ := Kd.R_slice HO212.out
      (first | subst eo14 | (injection eo14 with f1_ f2_ f3_; have f4_ := f1_.symm; have f5_ := f3_.symm; clear f1_ f2_ f3_; subst f4_; subst f5_))
      refine goes_ Try.func32 (by kernel_rfl) rfl #[.slice Ao13 y206.length co13, .slice Ao14 y210.length co14] (by rfl) rfl rfl (by first | (simp only [List.map_toArray, List.map_cons, List.map_nil, Act.eval, Array.getD_eq_getD_getElem?, Option.getD_some, e7, e12]; done) | (simp only [List.map_toArray, List.map_cons, List.map_nil, Act.eval, Array.getD_eq_getD_getElem?, Option.getD_some, e7, e12]; rfl)) ?_
      with_reducible refine (coamingref06_Pack.calls k _ _ y206 _ _ y210 t213 _ ?side1 ?side2 ?side3 ?side4 A4.out).mono ?_
      (case side1 => repeat (first | exact (Kd.R_reads' HO208.out).2.2 | (with_reducible refine Kd.C_alloc ?_ _) | (with_reducible refine Kd.C_drewN ?_ _) | (with_reducible refine Kd.C_drew ?_)))
      (case side2 => exact (Kd.R_reads' HO208.out).2.1)
      (case side3 => repeat (first | exact (Kd.R_reads' HO212.out).2.2 | (with_reducible refine Kd.C_alloc ?_ _) | (with_reducible refine Kd.C_drewN ?_ _) | (with_reducible refine Kd.C_drew ?_)))
      (case side4 => exact (Kd.R_reads' HO212.out).2.1)
      rintro e w15 ⟨v214, rfl, ho0, hb⟩
      refine ⟨_, rfl, ?_⟩
      have n0_ := Aside0.mk (Kd.R_below (by (with_reducible repeat (first | apply Kd.R_alloc | apply Kd.R_drewN | apply Kd.R_drew)); exact HO208.out) hb)
      have n1_ := Aside0.mk (Kd.R_below (by (with_reducible repeat (first | apply Kd.R_alloc | apply Kd.R_drewN | apply Kd.R_drew)); exact HO212.out) hb)
      have n2_ := Aside0.mk (Kd.R_lower ho0 (below_size (by repeat (first | (with_reducible first | exact HB.out | apply below_alloc | apply pw_below_drewN | apply below_drew1 | refine below_set ?_ GE205.out) | exact HB.out))))
      have n3_ := Aside0.mk (blk_below (g := gb205) (o := .cells #[.int .u32 a0_0, .int .u64 a0_1, .bool a0_2] 51 (0, 0)) (by (with_reducible repeat (first | refine blk_drewN ?_ _ | refine blk_drew ?_ | refine blk_alloc ?_ _)); exact BK205.out) hb)
      have n4_ := Aside0.mk (below_step (by repeat (first | (with_reducible first | exact HB.out | apply below_alloc | apply pw_below_drewN | apply below_drew1 | refine below_set ?_ GE205.out) | exact HB.out)) hb)
      clear HO208
      clear HO212
      clear BK205
      clear HB
      have HO208 := n0_
      have HO212 := n1_
      have HO215 := n2_
      have BK205 := n3_
      have HB := n4_
      clear n0_ n1_ n2_ n3_ n4_
      (try clear hb)
      (try clear hb2)
      (try clear hk)
      (try clear hi)
      (try clear ho0)
      refine hK.out _ _ ⟨.slice Ao13 y206.length co13, .slice Ao14 y210.length co14, v214, m7_, (by rw [ha.out]; exact putSel_upk 5 hb_ rfl rfl rfl), (by (with_reducible repeat (first | refine blk_drewN ?_ _ | refine blk_drew ?_ | refine blk_alloc ?_ _)); exact BK205.out), (by repeat (first | (with_reducible first | exact HB.out | apply below_alloc | apply pw_below_drewN | apply below_drew1 | refine below_set ?_ GE205.out) | exact HB.out)), fun _ => (by (with_reducible repeat (first | apply Kd.R_alloc | apply Kd.R_drewN | apply Kd.R_drew)); exact HO208.out), fun _ => (by (with_reducible repeat (first | apply Kd.R_alloc | apply Kd.R_drewN | apply Kd.R_drew)); exact HO212.out), fun _ => (by (with_reducible repeat (first | apply Kd.R_alloc | apply Kd.R_drewN | apply Kd.R_drew)); exact HO215.out), fun h0_ => absurd ((hoff 7 (by kernel_rfl)).symm.trans h0_) (by decide)⟩
    refine steps_cons ?_ ?_
    · rintro b a w' ⟨v207, v211, v214, m7_, ha, Q_BK205, Q_HB, Q_HO208, Q_HO212, Q_HO215, Q_X7_⟩ hb_ hon hoff
      refine ⟨_, rfl, fun K hK => ?_⟩
      have e13 : a.tmps[13]? = some (v214) := by rw [ha]; exact putSel_on (e := (6, 13, v214)) 5 rfl rfl (hon 6 (by kernel_rfl)) rfl
      replace ha := Aside0.mk ha
      have BK205 := Aside0.mk Q_BK205
      have HB := Aside0.mk Q_HB
      have HO208 := Aside0.mk (Q_HO208 (hon 0 (by kernel_rfl)))
      have HO212 := Aside0.mk (Q_HO212 (hon 5 (by kernel_rfl)))
      have HO215 := Aside0.mk (Q_HO215 (hon 6 (by kernel_rfl)))
      refine value_ (w1 := w') (v := v214) (by rfl) rfl ?_ ?_
      · go_simp
        (try simp only [i64_w])
        try rfl
      refine hK.out _ _ ⟨v207, v211, v214, (v214), (by rw [ha.out]; exact putSel_upk 6 hb_ rfl rfl rfl), Q_BK205, Q_HB, Q_HO208, Q_HO212, Q_HO215, fun _ => rfl⟩
    exact steps_nil
  rintro b a w15 hall ⟨v207, v211, v214, m7_, ha, Q_BK205, Q_HB, Q_HO208, Q_HO212, Q_HO215, Q_X7_⟩
  clear BK205 HB
  have hb0_ := hall 0 (by kernel_rfl)
  have hb2_ := hall 2 (by kernel_rfl)
  have hb3_ := hall 3 (by kernel_rfl)
  have hb4_ := hall 4 (by kernel_rfl)
  have hb5_ := hall 5 (by kernel_rfl)
  have hb6_ := hall 6 (by kernel_rfl)
  have hb7_ := hall 7 (by kernel_rfl)
  subst ha
  obtain rfl := Q_X7_ hb7_
  simp only [putSel, hb0_, hb2_, hb3_, hb4_, hb5_, hb6_, hb7_, if_true, Act.put, List.setIfInBounds_toArray, List.set_cons_zero, List.set_cons_succ]
  have BK205 := Aside0.mk Q_BK205
  clear Q_BK205
  have HB := Aside0.mk Q_HB
  clear Q_HB
  have HO208 := Aside0.mk (Q_HO208 hb0_)
  clear Q_HO208
  have HO212 := Aside0.mk (Q_HO212 hb5_)
  clear Q_HO212
  have HO215 := Aside0.mk (Q_HO215 hb6_)
  clear Q_HO215
  clear hall hb0_ hb2_ hb3_ hb4_ hb5_ hb6_ hb7_
  try go_wp2
  go_loopg [5, 6] k (fun kq v5 v6 w' => ∃ (x5_1 : List Int) (x6_1 : Int), v6 = .int .i64 x6_1 ∧ Aside0 (coamingref07_Old.l0 kq a1 x5_1 x6_1 = some r) ∧ Aside0 (kq ≤ k) ∧ Aside0 (Kd.R (Kd.int .u8) 5 w' w.heap.size (fun _ => True) v5 x5_1) ∧ Aside0 (w'.heap[gb205]? = some (.cells #[.int .u32 a0_0, .int .u64 a0_1, .bool a0_2] 51 (0, 0))) ∧ Aside0 (Below w.heap.size w w'))
  case atStart => exact ⟨(t213), (0), (by first | rfl | (simp; done) | (simp [*]; done)), H', ⟨Nat.le_refl _⟩, ⟨by (with_reducible repeat (first | apply Kd.R_alloc | apply Kd.R_drewN | apply Kd.R_drew)); exact HO215.out⟩, ⟨by (with_reducible repeat (first | refine blk_drewN ?_ _ | refine blk_drew ?_ | refine blk_alloc ?_ _)); exact BK205.out⟩, ⟨by repeat (first | (with_reducible first | exact HB.out | apply below_alloc | apply pw_below_drewN | apply below_drew1 | refine below_set ?_ GE205.out) | exact HB.out)⟩⟩
  case round =>
    clear H'
    try clear c1
    try clear c2
    try clear p2
    try clear c3
    obtain ⟨x5_1, x6_1, rfl, HA, HK1, HO_5, BK205, HB⟩ := hrel
    cases gk with
    | zero => exact absurd HA.out (by simp [coamingref07_Old.l0])
    | succ k1 =>
      have H := HA.out
      clear HA
      simp only [coamingref07_Old.l0] at H
      by_cases c16 : x6_1 < 124
      · rw [if_pos c16] at H
        have c16b0 : decide (x6_1 < 124) = true := decide_eq_true c16
        clear c16
        by_cases c17 : a1 = true
        · subst c17
          have H1 : (some x5_1) = some r := by rw [if_pos rfl] at H; exact H
          clear H
          have H := H1
          clear H1
          obtain rfl := Option.some.inj H
          go_wp2
          go_ret
          exact ⟨_, by first | rfl | (simp [errW_none, errW_some] <;> rfl) | (simp [*, errW_none, errW_some] <;> rfl), by (with_reducible repeat (first | apply Kd.R_alloc | apply Kd.R_drewN | apply Kd.R_drew)); exact HO_5.out, by repeat (first | (with_reducible first | exact HB.out | apply below_alloc | apply pw_below_drewN | apply below_drew1 | refine below_set ?_ GE205.out) | exact HB.out)⟩
        · replace c17 := Bool.eq_false_iff.mpr c17
          subst c17
          have H1 : (if x5_1.length < 140737488355328 then (coamingref07_Old.l0 k1 false (x5_1 ++ [0]) (wrap64 (x6_1 + 1))) else (none)) = some r := by rw [if_neg (show ¬ (false = true) by decide)] at H; exact H
          clear H
          have H := H1
          clear H1
          by_cases c18 : x5_1.length < 140737488355328
          · rw [if_pos c18] at H
            have LMc18 := Aside0.mk c18
            clear c18
            obtain ⟨y216, hy216⟩ : ∃ y_ : List Int, y_ = (x5_1 ++ [0]) := ⟨_, rfl⟩
            replace H : (coamingref07_Old.l0 k1 false y216 (wrap64 (x6_1 + 1))) = some r := by first | (rw [hy216]; with_reducible exact H) | (have H2_ := (Option.bind_some _ _).symm.trans H; rw [hy216]; with_reducible exact H2_) | (have H2_ := (Option.bind_some _ _).symm.trans H; with_reducible exact H2_) | with_reducible exact H | (rw [hy216]; exact H) | exact H
            have Ny216 := Aside0.mk hy216
            clear hy216
            have H' := Aside0.mk H
            clear H
            go_wp2_with (first | ((with_reducible refine gate_builtin (b := .append) (xs := #[.tmp 22, .tmp 23]) rfl ?_); at_builtin; refine Kd.R_append (Kd.int .u8) (w0 := w) w.heap.size rfl (.tmp 22) (.tmp 23) 22 5 (.int .u8 0) 1 rfl Try.underlying22 info5 rfl (by decide) (by omega) u5 x5_1 0 [.int .u8 0] (fun _ => True) (fun _ => False) rfl rfl ?aP (fun _ hk => hk.elim) ?aF ?aO ?aB ?aS ?aL ?_; (case aP => exact rfl); (case aB => exact (by repeat (first | (with_reducible first | exact HB.out | apply below_alloc | apply pw_below_drewN | apply below_drew1 | refine below_set ?_ GE205.out) | exact HB.out))); (case aF => exact (fun _ _ => trivial)); (case aO => exact (by (with_reducible repeat (first | apply Kd.R_alloc | apply Kd.R_drewN | apply Kd.R_drew)); exact HO_5.out)); (case aS => exact (below_size (by repeat (first | (with_reducible first | exact HB.out | apply below_alloc | apply pw_below_drewN | apply below_drew1 | refine below_set ?_ GE205.out) | exact HB.out)))); (case aL => have := LMc18.out; omega); intro v217 w19 ho hb hg hat; rw [← Ny216.out] at ho; have n0_ := Aside0.mk (blk_grown (g := gb205) (o := .cells #[.int .u32 a0_0, .int .u64 a0_1, .bool a0_2] 51 (0, 0)) (by (with_reducible repeat (first | refine blk_drewN ?_ _ | refine blk_drew ?_ | refine blk_alloc ?_ _)); exact BK205.out) hg (Kd.R_ne HO_5.out BK205.out (by decide))); have n1_ := Aside0.mk (hb); have n2_ := Aside0.mk (ho); clear BK205; clear HB; clear HO_5; have BK205 := n0_; have HB := n1_; have HO218 := n2_; clear n0_ n1_ n2_; clear ho hb hg hat))
            go_roundg k1
            case measure => have := HK1.out; omega
            case rel => exact ⟨(y216), (wrap64 (x6_1 + 1)), (by first | rfl | (simp; done) | (simp [*]; done)), H', ⟨by have := HK1.out; omega⟩, ⟨by (with_reducible repeat (first | apply Kd.R_alloc | apply Kd.R_drewN | apply Kd.R_drew)); exact HO218.out⟩, ⟨by (with_reducible repeat (first | refine blk_drewN ?_ _ | refine blk_drew ?_ | refine blk_alloc ?_ _)); exact BK205.out⟩, ⟨by repeat (first | (with_reducible first | exact HB.out | apply below_alloc | apply pw_below_drewN | apply below_drew1 | refine below_set ?_ GE205.out) | exact HB.out)⟩⟩
          · rw [if_neg c18] at H
            exact absurd H (by simp)
      · rw [if_neg c16] at H
        have c16b0 : decide (x6_1 < 124) = false := decide_eq_false c16
        clear c16
        obtain rfl := Option.some.inj H
        go_wp2
        go_ret
        exact ⟨_, by first | rfl | (simp [errW_none, errW_some] <;> rfl) | (simp [*, errW_none, errW_some] <;> rfl), by (with_reducible repeat (first | apply Kd.R_alloc | apply Kd.R_drewN | apply Kd.R_drew)); exact HO_5.out, by repeat (first | (with_reducible first | exact HB.out | apply below_alloc | apply pw_below_drewN | apply below_drew1 | refine below_set ?_ GE205.out) | exact HB.out)⟩

end Go.Proofs.Ytkpanpekoiadoaa.PGreetWrites
