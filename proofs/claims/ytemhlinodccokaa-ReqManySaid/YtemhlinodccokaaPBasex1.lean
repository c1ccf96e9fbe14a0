-- PRINTED by print.py (a twelfth state) out of the translation. Not trusted: Lean checks it.
import Derived.Test.YtemhlinodccokaaPBasex0
namespace Go.Proofs.Ytemhlinodccokaa.PBase
open Go.RowKit Go.Proofs.YtemhlinodccokaaW.PrintWords Go.Proofs.YtemhlinodccokaaW.PrintLast Go.Proofs.YtemhlinodccokaaW.PrintMore
attribute [local go_sem] max2_int min2_int max_two min_two max_three min_three max_four min_four   -- for this text's walks alone
set_option linter.unusedVariables false
set_option linter.unusedSimpArgs false

/-! ### req_form: function 25 -/
def req_form.f  : Option (List Int) := some (([4, 2, 2, 8, 8, 4] : List Int))
set_option maxHeartbeats 8000000 in
set_option maxRecDepth 100000 in
theorem req_form.calls  (r : List Int) (w : World) (h : req_form.f  = some r) :
    Calls Try.prog 25 #[] w fun e w' => ∃ v0_ : Value, e = .returned (v0_) ∧ Kd.R (Kd.int .i64) 3 w' w.heap.size (fun _ => True) v0_ r ∧ Below w.heap.size w w' := by
  have HB := Aside0.mk (Below.refl w.heap.size w)
  have H : (some (([4, 2, 2, 8, 8, 4] : List Int))) = some r := h
  clear h
  obtain ⟨y101, hy101⟩ : ∃ y_ : List Int, y_ = (([4, 2, 2, 8, 8, 4] : List Int)) := ⟨_, rfl⟩
  replace H : (some y101) = some r := by first | (rw [hy101]; with_reducible exact H) | (have H2_ := (Option.bind_some _ _).symm.trans H; rw [hy101]; with_reducible exact H2_) | (have H2_ := (Option.bind_some _ _).symm.trans H; with_reducible exact H2_) | with_reducible exact H | (rw [hy101]; exact H) | exact H
  have Ny101 := Aside0.mk hy101
  clear hy101
  obtain rfl := Option.some.inj H
  go_enter Try.func25, Try.ntmps25
  go_wp2_with (first | ((with_reducible refine gate_dst (N := 1) rfl ?_); refine Kd.R_lit (Kd.int .i64) _ 3 ?hg (N := 1) ?hd (xs := ([4, 2, 2, 8, 8, 4] : List Int)) (inner := [.int .i64 4, .int .i64 2, .int .i64 2, .int .i64 8, .int .i64 8, .int .i64 4]) (ok := fun _ => True) (okp := fun _ => True) ?hr ?hp (fun _ hk => hk) trivial (Below.refl _ _) (Nat.le_refl _) (by simp) ?_; (case hd => rfl); (case hg => rfl); (case hr => first | (go_simp; done) | (go_simp; rfl)); (case hp => exact (Reps.one (show Kd.M (Kd.int .i64) _ _ _ 4 [.int .i64 4] from rfl) (Reps.one (show Kd.M (Kd.int .i64) _ _ _ 2 [.int .i64 2] from rfl) (Reps.one (show Kd.M (Kd.int .i64) _ _ _ 2 [.int .i64 2] from rfl) (Reps.one (show Kd.M (Kd.int .i64) _ _ _ 8 [.int .i64 8] from rfl) (Reps.one (show Kd.M (Kd.int .i64) _ _ _ 8 [.int .i64 8] from rfl) (Reps.one (show Kd.M (Kd.int .i64) _ _ _ 4 [.int .i64 4] from rfl) (Reps.none _ _)))))))); intro v102 w1 ho2 hb hg_ hnew_; clear hg_ hnew_; (first | rw [← Ny101.out] at ho2 | (simp only [Int.reduceToNat] at ho2; rw [← Ny101.out] at ho2)); have n0_ := Aside0.mk (Kd.R_lower ho2 (below_size (by repeat (first | (with_reducible first | exact HB.out | apply below_alloc | apply pw_below_drewN | apply below_drew1) | exact HB.out)))); have n1_ := Aside0.mk (below_step (by repeat (first | (with_reducible first | exact HB.out | apply below_alloc | apply pw_below_drewN | apply below_drew1) | exact HB.out)) hb); clear HB; have HO103 := n0_; have HB := n1_; clear n0_ n1_; clear hb ho2))
  go_ret
  exact ⟨_, by first | rfl | (simp [errW_none, errW_some] <;> rfl) | (simp [*, errW_none, errW_some] <;> rfl), by (with_reducible repeat (first | apply Kd.R_alloc | apply Kd.R_drewN | apply Kd.R_drew)); exact HO103.out, by repeat (first | (with_reducible first | exact HB.out | apply below_alloc | apply pw_below_drewN | apply below_drew1) | exact HB.out)⟩

/-! ### req_Write: function 16 -/
def req_Write.f (k : Nat) (a0_0 : Int) (a0_1 : Int) (a0_2 : Int) (a0_3 : Int) (a0_4 : Int) (l0_5 : List Int) : Option (List Int) := if a0_1 = 1 then ((req_form.f).bind fun t105 => ((wire_Pack.f k t105 (([627086611, IntKind.u64.wrap (a0_0), IntKind.u64.wrap (a0_1), a0_2, a0_3, IntKind.u64.wrap ((l0_5.length : Int))] : List Int))).bind fun t111 => (if t111.length + l0_5.length < 140737488355328 then (some (t111 ++ l0_5)) else (none)))) else ((req_form.f).bind fun t117 => ((wire_Pack.f k t117 (([627086611, IntKind.u64.wrap (a0_0), IntKind.u64.wrap (a0_1), a0_2, a0_3, IntKind.u64.wrap (a0_4)] : List Int))).bind fun t123 => (some t123)))
theorem req_Write.mono : ∀ a0 a1 a2 a3 a4 a5 k, LeO (req_Write.f k a0 a1 a2 a3 a4 a5) (req_Write.f (k + 1) a0 a1 a2 a3 a4 a5) := by
  intro a0 a1 a2 a3 a4 a5 k
  unfold req_Write.f
  repeat' first
      | (with_reducible exact wire_Pack.mono _ _ _)
      | (with_reducible exact LeO.refl _)
      | (with_reducible exact LeO.none _)
      | (with_reducible refine LeO.ite ?_ ?_)
      | (with_reducible refine LeO.bind ?_ (fun _ => ?_))
      | exact wire_Pack.mono _ _ _
      | exact LeO.none _
      | refine LeO.ite ?_ ?_
      | refine LeO.bind ?_ (fun _ => ?_)
def req_Write.T4 : Bool × List (List Nat × List Nat) := (true, [([], []), ([0], [0]), ([], []), ([2], [2]), ([3], [3]), ([4], [4]), ([1, 0, 1], [1]), ([5, 6, 0, 1, 2, 3, 4, 5, 6], [5])])
def req_Write.B4 : List Nat := [0, 1, 0, 4, 12, 28, 3, 127]
theorem req_Write.tab4 : rtab .any (opsOf Try.f16 4) = req_Write.T4 := by kernel_rfl
theorem req_Write.bits4 : waitsOk req_Write.T4.2 req_Write.B4 = true := by kernel_rfl
def req_Write.T5 : Bool × List (List Nat × List Nat) := (true, [([], []), ([], []), ([1], [1]), ([2], [2]), ([], []), ([4], [4]), ([5], [5]), ([], []), ([7], [7]), ([], []), ([9], [9]), ([], []), ([3, 6, 8, 10, 11], [3, 6, 8, 10, 11]), ([0, 12, 0], [0, 12]), ([], []), ([13, 14, 13], [13, 14]), ([15, 15, 0, 1, 2, 3, 4, 5, 6, 7, 8, 9, 10, 11, 12, 13, 14, 15], [15])])
def req_Write.B5 : List Nat := [0, 0, 2, 6, 0, 16, 48, 0, 128, 0, 512, 0, 4094, 8191, 0, 32767, 65535]
theorem req_Write.tab5 : rtab .any (opsOf Try.f16 5) = req_Write.T5 := by kernel_rfl
theorem req_Write.bits5 : waitsOk req_Write.T5.2 req_Write.B5 = true := by kernel_rfl
set_option maxHeartbeats 8000000 in
set_option maxRecDepth 100000 in
theorem req_Write.calls (k : Nat) (a0_0 : Int) (a0_1 : Int) (a0_2 : Int) (a0_3 : Int) (a0_4 : Int) (A0_5 : Option Addr) (c0_5 : Nat) (l0_5 : List Int) (r : List Int) (w : World) (hr0_5 : Kd.C (Kd.int .u8) w A0_5 l0_5.length l0_5) (hc0_5 : l0_5.length ≤ c0_5) (h : req_Write.f k a0_0 a0_1 a0_2 a0_3 a0_4 l0_5 = some r) :
    Calls Try.prog 16 #[.agg #[.int .u16 a0_0, .int .u16 a0_1, .int .u64 a0_2, .int .u64 a0_3, .int .u32 a0_4, .slice A0_5 l0_5.length c0_5]] w fun e w' => ∃ v0_ : Value, e = .returned (v0_) ∧ Kd.R (Kd.int .u8) 5 w' w.heap.size (fun _ => True) v0_ r ∧ Below w.heap.size w w' := by
  have hu28 := Try.underlying28
  have HR0_5 := Aside0.mk hr0_5
  have HC0_5 := Aside0.mk hc0_5
  clear hr0_5 hc0_5
  have HB := Aside0.mk (Below.refl w.heap.size w)
  have H : (if a0_1 = 1 then ((req_form.f).bind fun t105 => ((wire_Pack.f k t105 (([627086611, IntKind.u64.wrap (a0_0), IntKind.u64.wrap (a0_1), a0_2, a0_3, IntKind.u64.wrap ((l0_5.length : Int))] : List Int))).bind fun t111 => (if t111.length + l0_5.length < 140737488355328 then (some (t111 ++ l0_5)) else (none)))) else ((req_form.f).bind fun t117 => ((wire_Pack.f k t117 (([627086611, IntKind.u64.wrap (a0_0), IntKind.u64.wrap (a0_1), a0_2, a0_3, IntKind.u64.wrap (a0_4)] : List Int))).bind fun t123 => (some t123)))) = some r := h
  clear h
  by_cases c2 : a0_1 = 1
  · rw [if_pos c2] at H
    have c2b0 : (a0_1 == 1) = true := beq_iff_eq.mpr c2
    have c2b1 : (a0_1 != 1) = false := bne_eq_false_iff_eq.mpr c2
    clear c2
    replace H := Option.bind_eq_some_iff.mp H
    obtain ⟨t105, A30, H⟩ := H
    replace H : ((wire_Pack.f k t105 (([627086611, IntKind.u64.wrap (a0_0), IntKind.u64.wrap (a0_1), a0_2, a0_3, IntKind.u64.wrap ((l0_5.length : Int))] : List Int))).bind fun t111 => (if t111.length + l0_5.length < 140737488355328 then (some (t111 ++ l0_5)) else (none))) = some r := H
    have A3 := Aside0.mk A30
    clear A30
    obtain ⟨y108, hy108⟩ : ∃ y_ : List Int, y_ = (([627086611, IntKind.u64.wrap (a0_0), IntKind.u64.wrap (a0_1), a0_2, a0_3, IntKind.u64.wrap ((l0_5.length : Int))] : List Int)) := ⟨_, rfl⟩
    replace H : ((wire_Pack.f k t105 y108).bind fun t111 => (if t111.length + l0_5.length < 140737488355328 then (some (t111 ++ l0_5)) else (none))) = some r := by first | (rw [hy108]; with_reducible exact H) | (have H2_ := (Option.bind_some _ _).symm.trans H; rw [hy108]; with_reducible exact H2_) | (have H2_ := (Option.bind_some _ _).symm.trans H; with_reducible exact H2_) | with_reducible exact H | (rw [hy108]; exact H) | exact H
    have Ny108 := Aside0.mk hy108
    clear hy108
    replace H := Option.bind_eq_some_iff.mp H
    obtain ⟨t111, A40, H⟩ := H
    replace H : (if t111.length + l0_5.length < 140737488355328 then (some (t111 ++ l0_5)) else (none)) = some r := H
    have A4 := Aside0.mk A40
    clear A40
    by_cases c5 : t111.length + l0_5.length < 140737488355328
    · rw [if_pos c5] at H
      have LMc5 := Aside0.mk c5
      clear c5
      obtain ⟨y114, hy114⟩ : ∃ y_ : List Int, y_ = (t111 ++ l0_5) := ⟨_, rfl⟩
      replace H : (some y114) = some r := by first | (rw [hy114]; with_reducible exact H) | (have H2_ := (Option.bind_some _ _).symm.trans H; rw [hy114]; with_reducible exact H2_) | (have H2_ := (Option.bind_some _ _).symm.trans H; with_reducible exact H2_) | with_reducible exact H | (rw [hy114]; exact H) | exact H
      have Ny114 := Aside0.mk hy114
      clear hy114
      obtain rfl := Option.some.inj H
      go_enter Try.func16, Try.ntmps16
      try go_wp2_with (first | ((with_reducible refine gate_dst (N := 1) rfl ?_); refine box_event ?hg (N := 1) ?hd (cs := #[.int .u16 a0_0, .int .u16 a0_1, .int .u64 a0_2, .int .u64 a0_3, .int .u32 a0_4, .slice A0_5 l0_5.length c0_5]) (t := 28) ?hr ?_; (case hd => rfl); (case hg => rfl); (case hr => first | (go_simp; done) | (go_simp; rfl)); intro gb104 hg w6 hbox hb; have n0_ := Aside0.mk (below_step (by repeat (first | (with_reducible first | exact HB.out | apply below_alloc | apply pw_below_drewN | apply below_drew1) | exact HB.out)) hb); have n1_ := Aside0.mk (hbox); have n2_ := Aside0.mk ((by rw [hg]; exact (below_size (by repeat (first | (with_reducible first | exact HB.out | apply below_alloc | apply pw_below_drewN | apply below_drew1) | exact HB.out))) : w.heap.size ≤ gb104)); have n3_ := Aside0.mk ((by rw [hg]; exact (below_size (by repeat (first | (with_reducible first | exact HB.out | apply below_alloc | apply pw_below_drewN | apply below_drew1) | exact HB.out))) : w.heap.size ≤ gb104)); clear HB; have HB := n0_; have BK104 := n1_; have GW104 := n2_; have GE104 := n3_; clear n0_ n1_ n2_ n3_; clear hb hbox hg; have hcz7_0 : w6.cell? ⟨gb104, 0, none⟩ = some (.int .u16 a0_0) := (blk_cell BK104.out 0).trans rfl; have hcz7_1 : w6.cell? ⟨gb104, 1, none⟩ = some (.int .u16 a0_1) := (blk_cell BK104.out 1).trans rfl; have hcz7_2 : w6.cell? ⟨gb104, 2, none⟩ = some (.int .u64 a0_2) := (blk_cell BK104.out 2).trans rfl; have hcz7_3 : w6.cell? ⟨gb104, 3, none⟩ = some (.int .u64 a0_3) := (blk_cell BK104.out 3).trans rfl; have hcz7_4 : w6.cell? ⟨gb104, 4, none⟩ = some (.int .u32 a0_4) := (blk_cell BK104.out 4).trans rfl; have hcz7_5 : w6.cell? ⟨gb104, 5, none⟩ = some (.slice A0_5 l0_5.length c0_5) := (blk_cell BK104.out 5).trans rfl; have hfz7_0 := blk_frozen BK104.out 0; have hfz7_1 := blk_frozen BK104.out 1; have hfz7_2 := blk_frozen BK104.out 2; have hfz7_3 := blk_frozen BK104.out 3; have hfz7_4 := blk_frozen BK104.out 4; have hfz7_5 := blk_frozen BK104.out 5))
      have n0_ := Aside0.mk (blk_drew BK104.out)
      have n1_ := Aside0.mk (below_drew1 HB.out)
      clear BK104
      clear HB
      have BK104 := n0_
      have HB := n1_
      clear n0_ n1_
      refine start_ (n := 8) (S := fun w' => w'.cell? ⟨gb104, 0, none⟩ = some (.int .u16 a0_0) ∧ w'.cell? ⟨gb104, 1, none⟩ = some (.int .u16 a0_1) ∧ w'.cell? ⟨gb104, 2, none⟩ = some (.int .u64 a0_2) ∧ w'.cell? ⟨gb104, 3, none⟩ = some (.int .u64 a0_3) ∧ w'.cell? ⟨gb104, 4, none⟩ = some (.int .u32 a0_4) ∧ w'.cell? ⟨gb104, 5, none⟩ = some (.slice A0_5 l0_5.length c0_5)) (ds := []) #[false, false, false, false, false, false, false, false] (by kernel_rfl) rfl rfl ⟨(blk_cell BK104.out 0).trans rfl, (blk_cell BK104.out 1).trans rfl, (blk_cell BK104.out 2).trans rfl, (blk_cell BK104.out 3).trans rfl, (blk_cell BK104.out 4).trans rfl, (blk_cell BK104.out 5).trans rfl⟩ (fun hHeld => ?_); refine with_tabW req_Write.tab4 req_Write.bits4 (fun HT_ HW_ => ?_)
      generalize w6.drew = w8 at BK104 HB hHeld ⊢
      refine pure_ (i := 0) (N := some 11) (v := ?_) (a' := ?_) #[true, false, false, false, false, false, false, false] rfl rfl (any_of HT_.out (by kernel_rfl)) (fun _ _ _ h => h) (Or.inl ⟨by rfl, ?_⟩) ?_ ?_
      rotate_left
      · intro w'
        go_simp
        with_reducible rfl
      rotate_left
      · simp only [Act.put, List.setIfInBounds_toArray, List.set_cons_zero, List.set_cons_succ, i64_w, i32_w]
        rfl
      refine pure_ (i := 2) (N := some 13) (v := ?_) (a' := ?_) #[true, false, true, false, false, false, false, false] rfl rfl (any_of HT_.out (by kernel_rfl)) (fun _ _ _ h => h) (Or.inl ⟨by rfl, ?_⟩) ?_ ?_
      rotate_left
      · intro w'
        go_simp
        with_reducible rfl
      rotate_left
      · simp only [Act.put, List.setIfInBounds_toArray, List.set_cons_zero, List.set_cons_succ, i64_w, i32_w]
        rfl
      refine take_ (i := 1) (N := some 12) (v := ?_) (a' := ?_) #[true, true, true, false, false, false, false, false] rfl rfl (take_ofW HT_.out HW_.out (by kernel_rfl)) (fun _ _ _ h => h) (Or.inl ⟨by rfl, ?_⟩) hHeld ?_ ?_
      rotate_left
      · rintro w' ⟨s0, s1, s2, s3, s4, s5⟩
        go_simp
        with_reducible rfl
      rotate_left
      · simp only [Act.put, List.setIfInBounds_toArray, List.set_cons_zero, List.set_cons_succ, i64_w, i32_w]
        rfl
      refine pure_ (i := 6) (N := some 3) (v := ?_) (a' := ?_) #[true, true, true, false, false, false, true, false] rfl rfl (any_of HT_.out (by kernel_rfl)) (fun _ _ _ h => h) (Or.inl ⟨by rfl, ?_⟩) ?_ ?_
      rotate_left
      · intro w'
        go_simp
        with_reducible rfl
      rotate_left
      · simp only [Act.put, List.setIfInBounds_toArray, List.set_cons_zero, List.set_cons_succ, i64_w, i32_w]
        rfl
      refine take_ (i := 3) (N := some 14) (v := ?_) (a' := ?_) #[true, true, true, true, false, false, true, false] rfl rfl (take_ofW HT_.out HW_.out (by kernel_rfl)) (fun _ _ _ h => h) (Or.inl ⟨by rfl, ?_⟩) hHeld ?_ ?_
      rotate_left
      · rintro w' ⟨s0, s1, s2, s3, s4, s5⟩
        go_simp
        with_reducible rfl
      rotate_left
      · simp only [Act.put, List.setIfInBounds_toArray, List.set_cons_zero, List.set_cons_succ, i64_w, i32_w]
        rfl
      refine pure_ (i := 4) (N := some 15) (v := ?_) (a' := ?_) #[true, true, true, true, true, false, true, false] rfl rfl (any_of HT_.out (by kernel_rfl)) (fun _ _ _ h => h) (Or.inl ⟨by rfl, ?_⟩) ?_ ?_
      rotate_left
      · intro w'
        go_simp
        with_reducible rfl
      rotate_left
      · simp only [Act.put, List.setIfInBounds_toArray, List.set_cons_zero, List.set_cons_succ, i64_w, i32_w]
        rfl
      refine pure_ (i := 5) (N := some 16) (v := ?_) (a' := ?_) #[true, true, true, true, true, true, true, false] rfl rfl (any_of HT_.out (by kernel_rfl)) (fun _ _ _ h => h) (Or.inl ⟨by rfl, ?_⟩) ?_ ?_
      rotate_left
      · intro w'
        go_simp
        with_reducible rfl
      rotate_left
      · simp only [Act.put, List.setIfInBounds_toArray, List.set_cons_zero, List.set_cons_succ, i64_w, i32_w]
        rfl
      refine pure_ (i := 7) (N := some 4) (v := ?_) (a' := ?_) #[true, true, true, true, true, true, true, true] rfl rfl (any_of HT_.out (by kernel_rfl)) (fun _ _ _ h => h) (Or.inl ⟨by rfl, ?_⟩) ?_ ?_
      rotate_left
      · intro w'
        go_simp
        with_reducible rfl
      rotate_left
      · simp only [Act.put, List.setIfInBounds_toArray, List.set_cons_zero, List.set_cons_succ, i64_w, i32_w]
        rfl
      refine done_ (done_of HT_.out (by kernel_rfl)) ?_
      try go_wp2
      have n0_ := Aside0.mk (blk_drew BK104.out)
      have n1_ := Aside0.mk (below_drew1 HB.out)
      clear BK104
      clear HB
      have BK104 := n0_
      have HB := n1_
      clear n0_ n1_
      refine start_ (n := 17) (S := fun w' => w'.cell? ⟨gb104, 0, none⟩ = some (.int .u16 a0_0) ∧ w'.cell? ⟨gb104, 1, none⟩ = some (.int .u16 a0_1) ∧ w'.cell? ⟨gb104, 2, none⟩ = some (.int .u64 a0_2) ∧ w'.cell? ⟨gb104, 3, none⟩ = some (.int .u64 a0_3) ∧ w'.cell? ⟨gb104, 4, none⟩ = some (.int .u32 a0_4) ∧ w'.cell? ⟨gb104, 5, none⟩ = some (.slice A0_5 l0_5.length c0_5)) (ds := []) #[false, false, false, false, false, false, false, false, false, false, false, false, false, false, false, false, false] (by kernel_rfl) rfl rfl ⟨(blk_cell BK104.out 0).trans rfl, (blk_cell BK104.out 1).trans rfl, (blk_cell BK104.out 2).trans rfl, (blk_cell BK104.out 3).trans rfl, (blk_cell BK104.out 4).trans rfl, (blk_cell BK104.out 5).trans rfl⟩ (fun hHeld => ?_); refine with_tabW req_Write.tab5 req_Write.bits5 (fun HT_ HW_ => ?_)
      generalize w8.drew = w9 at BK104 HB hHeld ⊢
      refine pure_ (i := 1) (N := some 18) (v := ?_) (a' := ?_) #[false, true, false, false, false, false, false, false, false, false, false, false, false, false, false, false, false] rfl rfl (any_of HT_.out (by kernel_rfl)) (fun _ _ _ h => h) (Or.inl ⟨by rfl, ?_⟩) ?_ ?_
      rotate_left
      · intro w'
        go_simp
        with_reducible rfl
      rotate_left
      · simp only [Act.put, List.setIfInBounds_toArray, List.set_cons_zero, List.set_cons_succ, i64_w, i32_w]
        rfl
      refine pure_ (i := 4) (N := some 21) (v := ?_) (a' := ?_) #[false, true, false, false, true, false, false, false, false, false, false, false, false, false, false, false, false] rfl rfl (any_of HT_.out (by kernel_rfl)) (fun _ _ _ h => h) (Or.inl ⟨by rfl, ?_⟩) ?_ ?_
      rotate_left
      · intro w'
        go_simp
        with_reducible rfl
      rotate_left
      · simp only [Act.put, List.setIfInBounds_toArray, List.set_cons_zero, List.set_cons_succ, i64_w, i32_w]
        rfl
      refine pure_ (i := 7) (N := some 24) (v := ?_) (a' := ?_) #[false, true, false, false, true, false, false, true, false, false, false, false, false, false, false, false, false] rfl rfl (any_of HT_.out (by kernel_rfl)) (fun _ _ _ h => h) (Or.inl ⟨by rfl, ?_⟩) ?_ ?_
      rotate_left
      · intro w'
        go_simp
        with_reducible rfl
      rotate_left
      · simp only [Act.put, List.setIfInBounds_toArray, List.set_cons_zero, List.set_cons_succ, i64_w, i32_w]
        rfl
      refine pure_ (i := 9) (N := some 26) (v := ?_) (a' := ?_) #[false, true, false, false, true, false, false, true, false, true, false, false, false, false, false, false, false] rfl rfl (any_of HT_.out (by kernel_rfl)) (fun _ _ _ h => h) (Or.inl ⟨by rfl, ?_⟩) ?_ ?_
      rotate_left
      · intro w'
        go_simp
        with_reducible rfl
      rotate_left
      · simp only [Act.put, List.setIfInBounds_toArray, List.set_cons_zero, List.set_cons_succ, i64_w, i32_w]
        rfl
      refine pure_ (i := 11) (N := some 28) (v := ?_) (a' := ?_) #[false, true, false, false, true, false, false, true, false, true, false, true, false, false, false, false, false] rfl rfl (any_of HT_.out (by kernel_rfl)) (fun _ _ _ h => h) (Or.inl ⟨by rfl, ?_⟩) ?_ ?_
      rotate_left
      · intro w'
        go_simp
        with_reducible rfl
      rotate_left
      · simp only [Act.put, List.setIfInBounds_toArray, List.set_cons_zero, List.set_cons_succ, i64_w, i32_w]
        rfl
      refine pure_ (i := 14) (N := some 31) (v := ?_) (a' := ?_) #[false, true, false, false, true, false, false, true, false, true, false, true, false, false, true, false, false] rfl rfl (any_of HT_.out (by kernel_rfl)) (fun _ _ _ h => h) (Or.inl ⟨by rfl, ?_⟩) ?_ ?_
      rotate_left
      · intro w'
        go_simp
        with_reducible rfl
      rotate_left
      · simp only [Act.put, List.setIfInBounds_toArray, List.set_cons_zero, List.set_cons_succ, i64_w, i32_w]
        rfl
      refine take_ (i := 2) (N := some 19) (v := ?_) (a' := ?_) #[false, true, true, false, true, false, false, true, false, true, false, true, false, false, true, false, false] rfl rfl (take_ofW HT_.out HW_.out (by kernel_rfl)) (fun _ _ _ h => h) (Or.inl ⟨by rfl, ?_⟩) hHeld ?_ ?_
      rotate_left
      · rintro w' ⟨s0, s1, s2, s3, s4, s5⟩
        go_simp
        with_reducible rfl
      rotate_left
      · simp only [Act.put, List.setIfInBounds_toArray, List.set_cons_zero, List.set_cons_succ, i64_w, i32_w]
        rfl
      refine pure_ (i := 3) (N := some 20) (v := ?_) (a' := ?_) #[false, true, true, true, true, false, false, true, false, true, false, true, false, false, true, false, false] rfl rfl (any_of HT_.out (by kernel_rfl)) (fun _ _ _ h => h) (Or.inl ⟨by rfl, ?_⟩) ?_ ?_
      rotate_left
      · intro w'
        go_simp
        with_reducible rfl
      rotate_left
      · simp only [Act.put, List.setIfInBounds_toArray, List.set_cons_zero, List.set_cons_succ, i64_w, i32_w]
        rfl
      refine take_ (i := 5) (N := some 22) (v := ?_) (a' := ?_) #[false, true, true, true, true, true, false, true, false, true, false, true, false, false, true, false, false] rfl rfl (take_ofW HT_.out HW_.out (by kernel_rfl)) (fun _ _ _ h => h) (Or.inl ⟨by rfl, ?_⟩) hHeld ?_ ?_
      rotate_left
      · rintro w' ⟨s0, s1, s2, s3, s4, s5⟩
        go_simp
        with_reducible rfl
      rotate_left
      · simp only [Act.put, List.setIfInBounds_toArray, List.set_cons_zero, List.set_cons_succ, i64_w, i32_w]
        rfl
      refine pure_ (i := 6) (N := some 23) (v := ?_) (a' := ?_) #[false, true, true, true, true, true, true, true, false, true, false, true, false, false, true, false, false] rfl rfl (any_of HT_.out (by kernel_rfl)) (fun _ _ _ h => h) (Or.inl ⟨by rfl, ?_⟩) ?_ ?_
      rotate_left
      · intro w'
        go_simp
        with_reducible rfl
      rotate_left
      · simp only [Act.put, List.setIfInBounds_toArray, List.set_cons_zero, List.set_cons_succ, i64_w, i32_w]
        rfl
      refine take_ (i := 8) (N := some 25) (v := ?_) (a' := ?_) #[false, true, true, true, true, true, true, true, true, true, false, true, false, false, true, false, false] rfl rfl (take_ofW HT_.out HW_.out (by kernel_rfl)) (fun _ _ _ h => h) (Or.inl ⟨by rfl, ?_⟩) hHeld ?_ ?_
      rotate_left
      · rintro w' ⟨s0, s1, s2, s3, s4, s5⟩
        go_simp
        with_reducible rfl
      rotate_left
      · simp only [Act.put, List.setIfInBounds_toArray, List.set_cons_zero, List.set_cons_succ, i64_w, i32_w]
        rfl
      refine take_ (i := 10) (N := some 27) (v := ?_) (a' := ?_) #[false, true, true, true, true, true, true, true, true, true, true, true, false, false, true, false, false] rfl rfl (take_ofW HT_.out HW_.out (by kernel_rfl)) (fun _ _ _ h => h) (Or.inl ⟨by rfl, ?_⟩) hHeld ?_ ?_
      rotate_left
      · rintro w' ⟨s0, s1, s2, s3, s4, s5⟩
        go_simp
        with_reducible rfl
      rotate_left
      · simp only [Act.put, List.setIfInBounds_toArray, List.set_cons_zero, List.set_cons_succ, i64_w, i32_w]
        rfl
      refine join_ (σ := Value × Value) 3 #[true, true, true, true, true, true, true, true, true, true, true, true, true, false, true, false, false] (fun s_ => [(17, s_.1), (29, s_.2)]) (fun s_ w' => (w'.cell? ⟨gb104, 0, none⟩ = some (.int .u16 a0_0) ∧ w'.cell? ⟨gb104, 1, none⟩ = some (.int .u16 a0_1) ∧ w'.cell? ⟨gb104, 2, none⟩ = some (.int .u64 a0_2) ∧ w'.cell? ⟨gb104, 3, none⟩ = some (.int .u64 a0_3) ∧ w'.cell? ⟨gb104, 4, none⟩ = some (.int .u32 a0_4) ∧ w'.cell? ⟨gb104, 5, none⟩ = some (.slice A0_5 l0_5.length c0_5)) ∧ (Kd.R (Kd.int .i64) 3 w' w.heap.size (fun _ => True) s_.1 t105) ∧ (Kd.R (Kd.int .u64) 25 w' w.heap.size (fun _ => True) s_.2 y108) ∧ (w'.heap[gb104]? = some (.cells #[.int .u16 a0_0, .int .u16 a0_1, .int .u64 a0_2, .int .u64 a0_3, .int .u32 a0_4, .slice A0_5 l0_5.length c0_5] 28 (0, 0))) ∧ (Below w.heap.size w w')) ?_ ?_
      rotate_left
      · intro hCont
        refine two_ (i := 0) (j := 12) (Ni := some 17) (Nj := some 29) #[true, true, true, true, true, true, true, true, true, true, true, true, false, false, true, false, false] #[false, true, true, true, true, true, true, true, true, true, true, true, true, false, true, false, false] rfl rfl rfl rfl (two_of HT_.out (by kernel_rfl)) (by decide) (by decide) (fun K hK => ?_) (fun K hK => ?_)
        · skip
          refine goes_ Try.func25 (by kernel_rfl) rfl #[] (by rfl) rfl rfl (by (try simp only [List.map_toArray, List.map_cons, List.map_nil]); first | done | rfl | (simp only [List.length_drop, List.length_take]; rfl) | (simp only [List.length_drop, List.length_take]; (repeat rw [Nat.min_eq_left (by simp only [eq_iff_iff, iff_true] at *; omega)]); rfl)) ?_
          with_reducible refine (req_form.calls  t105 _ A3.out).mono ?_
          rintro e w10 ⟨v106, rfl, ho0, hb⟩
          refine ⟨_, rfl, ?_⟩
          have n0_ := Aside0.mk (Kd.R_lower ho0 (below_size (by repeat (first | (with_reducible first | exact HB.out | apply below_alloc | apply pw_below_drewN | apply below_drew1 | refine below_set ?_ GE104.out) | exact HB.out))))
          have n1_ := Aside0.mk (blk_below (g := gb104) (o := .cells #[.int .u16 a0_0, .int .u16 a0_1, .int .u64 a0_2, .int .u64 a0_3, .int .u32 a0_4, .slice A0_5 l0_5.length c0_5] 28 (0, 0)) (by (with_reducible repeat (first | refine blk_drewN ?_ _ | refine blk_drew ?_ | refine blk_alloc ?_ _)); exact BK104.out) hb)
          have n2_ := Aside0.mk (below_step (by repeat (first | (with_reducible first | exact HB.out | apply below_alloc | apply pw_below_drewN | apply below_drew1 | refine below_set ?_ GE104.out) | exact HB.out)) hb)
          clear BK104
          clear HB
          have HO107 := n0_
          have BK104 := n1_
          have HB := n2_
          clear n0_ n1_ n2_
          (try clear hb)
          (try clear hb2)
          (try clear hk)
          (try clear hi)
          (try clear ho0)
          refine hK.out _ _ ⟨(blk_cell BK104.out 0).trans rfl, (blk_cell BK104.out 1).trans rfl, (blk_cell BK104.out 2).trans rfl, (blk_cell BK104.out 3).trans rfl, (blk_cell BK104.out 4).trans rfl, (blk_cell BK104.out 5).trans rfl⟩ (fun hHeld => ?_)
          clear hK K
          refine norm_ (a' := ?_) ?_ ?_
          rotate_left
          · show Act.put _ (some 17) _ = _
            simp only [Act.put, List.setIfInBounds_toArray, List.set_cons_zero, List.set_cons_succ, i64_w, i32_w]
            rfl
          refine one_ (i := 12) (N := some 29) #[true, true, true, true, true, true, true, true, true, true, true, true, true, false, true, false, false] rfl rfl (one_of HT_.out (by kernel_rfl)) (by decide) (fun K hK => ?_)
          refine Kd.R_lit_step (Kd.int .u64) _ 25 ?hg (N := 29) ?hd (xs := ([627086611, IntKind.u64.wrap (a0_0), IntKind.u64.wrap (a0_1), a0_2, a0_3, IntKind.u64.wrap ((l0_5.length : Int))] : List Int)) (inner := [.int .u64 627086611, .int .u64 (IntKind.u64.wrap (a0_0)), .int .u64 (IntKind.u64.wrap (a0_1)), .int .u64 a0_2, .int .u64 a0_3, .int .u64 (IntKind.u64.wrap ((l0_5.length : Int)))]) (ok := fun _ => True) (okp := fun _ => True) ?hr ?hp (fun _ hk => hk) trivial (Below.refl _ _) (Nat.le_refl _) (by simp) ?_; (case hd => rfl); (case hg => rfl); (case hr => first | (go_simp; done) | (go_simp; rfl)); (case hp => exact (Reps.one (show Kd.M (Kd.int .u64) _ _ _ 627086611 [.int .u64 627086611] from rfl) (Reps.one (show Kd.M (Kd.int .u64) _ _ _ (IntKind.u64.wrap (a0_0)) [.int .u64 (IntKind.u64.wrap (a0_0))] from rfl) (Reps.one (show Kd.M (Kd.int .u64) _ _ _ (IntKind.u64.wrap (a0_1)) [.int .u64 (IntKind.u64.wrap (a0_1))] from rfl) (Reps.one (show Kd.M (Kd.int .u64) _ _ _ a0_2 [.int .u64 a0_2] from rfl) (Reps.one (show Kd.M (Kd.int .u64) _ _ _ a0_3 [.int .u64 a0_3] from rfl) (Reps.one (show Kd.M (Kd.int .u64) _ _ _ (IntKind.u64.wrap ((l0_5.length : Int))) [.int .u64 (IntKind.u64.wrap ((l0_5.length : Int)))] from rfl) (Reps.none _ _))))))))
          intro v109 w11 ho12 hb hg_ hnew_
          clear hg_ hnew_
          (first | rw [← Ny108.out] at ho12 | (simp only [Int.reduceToNat] at ho12; rw [← Ny108.out] at ho12))
          have n0_ := Aside0.mk (Kd.R_below (by (with_reducible repeat (first | apply Kd.R_alloc | apply Kd.R_drewN | apply Kd.R_drew)); exact HO107.out) hb)
          have n1_ := Aside0.mk (Kd.R_lower ho12 (below_size (by repeat (first | (with_reducible first | exact HB.out | apply below_alloc | apply pw_below_drewN | apply below_drew1 | refine below_set ?_ GE104.out) | exact HB.out))))
          have n2_ := Aside0.mk (blk_below (g := gb104) (o := .cells #[.int .u16 a0_0, .int .u16 a0_1, .int .u64 a0_2, .int .u64 a0_3, .int .u32 a0_4, .slice A0_5 l0_5.length c0_5] 28 (0, 0)) (by (with_reducible repeat (first | refine blk_drewN ?_ _ | refine blk_drew ?_ | refine blk_alloc ?_ _)); exact BK104.out) hb)
          have n3_ := Aside0.mk (below_step (by repeat (first | (with_reducible first | exact HB.out | apply below_alloc | apply pw_below_drewN | apply below_drew1 | refine below_set ?_ GE104.out) | exact HB.out)) hb)
          clear HO107
          clear BK104
          clear HB
          have HO107 := n0_
          have HO110 := n1_
          have BK104 := n2_
          have HB := n3_
          clear n0_ n1_ n2_ n3_
          clear hb ho12
          refine hK.out _ _ ⟨(blk_cell BK104.out 0).trans rfl, (blk_cell BK104.out 1).trans rfl, (blk_cell BK104.out 2).trans rfl, (blk_cell BK104.out 3).trans rfl, (blk_cell BK104.out 4).trans rfl, (blk_cell BK104.out 5).trans rfl⟩ (fun hHeld => ?_)
          clear hK K
          refine norm_ (a' := ?_) ?_ ?_
          rotate_left
          · show Act.put _ (some 29) _ = _
            simp only [Act.put, List.setIfInBounds_toArray, List.set_cons_zero, List.set_cons_succ, i64_w, i32_w]
            rfl
          exact norm_ (by simp only [putAll, Act.put, List.setIfInBounds_toArray, List.set_cons_zero, List.set_cons_succ]) (hCont (v106, v109) _ ⟨hHeld, (by (with_reducible repeat (first | apply Kd.R_alloc | apply Kd.R_drewN | apply Kd.R_drew)); exact HO107.out), (by (with_reducible repeat (first | apply Kd.R_alloc | apply Kd.R_drewN | apply Kd.R_drew)); exact HO110.out), (by (with_reducible repeat (first | refine blk_drewN ?_ _ | refine blk_drew ?_ | refine blk_alloc ?_ _)); exact BK104.out), (by repeat (first | (with_reducible first | exact HB.out | apply below_alloc | apply pw_below_drewN | apply below_drew1 | refine below_set ?_ GE104.out) | exact HB.out))⟩)
        · skip
          refine Kd.R_lit_step (Kd.int .u64) _ 25 ?hg (N := 29) ?hd (xs := ([627086611, IntKind.u64.wrap (a0_0), IntKind.u64.wrap (a0_1), a0_2, a0_3, IntKind.u64.wrap ((l0_5.length : Int))] : List Int)) (inner := [.int .u64 627086611, .int .u64 (IntKind.u64.wrap (a0_0)), .int .u64 (IntKind.u64.wrap (a0_1)), .int .u64 a0_2, .int .u64 a0_3, .int .u64 (IntKind.u64.wrap ((l0_5.length : Int)))]) (ok := fun _ => True) (okp := fun _ => True) ?hr ?hp (fun _ hk => hk) trivial (Below.refl _ _) (Nat.le_refl _) (by simp) ?_; (case hd => rfl); (case hg => rfl); (case hr => first | (go_simp; done) | (go_simp; rfl)); (case hp => exact (Reps.one (show Kd.M (Kd.int .u64) _ _ _ 627086611 [.int .u64 627086611] from rfl) (Reps.one (show Kd.M (Kd.int .u64) _ _ _ (IntKind.u64.wrap (a0_0)) [.int .u64 (IntKind.u64.wrap (a0_0))] from rfl) (Reps.one (show Kd.M (Kd.int .u64) _ _ _ (IntKind.u64.wrap (a0_1)) [.int .u64 (IntKind.u64.wrap (a0_1))] from rfl) (Reps.one (show Kd.M (Kd.int .u64) _ _ _ a0_2 [.int .u64 a0_2] from rfl) (Reps.one (show Kd.M (Kd.int .u64) _ _ _ a0_3 [.int .u64 a0_3] from rfl) (Reps.one (show Kd.M (Kd.int .u64) _ _ _ (IntKind.u64.wrap ((l0_5.length : Int))) [.int .u64 (IntKind.u64.wrap ((l0_5.length : Int)))] from rfl) (Reps.none _ _))))))))
          intro v109 w10 ho11 hb hg_ hnew_
          clear hg_ hnew_
          (first | rw [← Ny108.out] at ho11 | (simp only [Int.reduceToNat] at ho11; rw [← Ny108.out] at ho11))
          have n0_ := Aside0.mk (Kd.R_lower ho11 (below_size (by repeat (first | (with_reducible first | exact HB.out | apply below_alloc | apply pw_below_drewN | apply below_drew1 | refine below_set ?_ GE104.out) | exact HB.out))))
          have n1_ := Aside0.mk (blk_below (g := gb104) (o := .cells #[.int .u16 a0_0, .int .u16 a0_1, .int .u64 a0_2, .int .u64 a0_3, .int .u32 a0_4, .slice A0_5 l0_5.length c0_5] 28 (0, 0)) (by (with_reducible repeat (first | refine blk_drewN ?_ _ | refine blk_drew ?_ | refine blk_alloc ?_ _)); exact BK104.out) hb)
          have n2_ := Aside0.mk (below_step (by repeat (first | (with_reducible first | exact HB.out | apply below_alloc | apply pw_below_drewN | apply below_drew1 | refine below_set ?_ GE104.out) | exact HB.out)) hb)
          clear BK104
          clear HB
          have HO110 := n0_
          have BK104 := n1_
          have HB := n2_
          clear n0_ n1_ n2_
          clear hb ho11
          refine hK.out _ _ ⟨(blk_cell BK104.out 0).trans rfl, (blk_cell BK104.out 1).trans rfl, (blk_cell BK104.out 2).trans rfl, (blk_cell BK104.out 3).trans rfl, (blk_cell BK104.out 4).trans rfl, (blk_cell BK104.out 5).trans rfl⟩ (fun hHeld => ?_)
          clear hK K
          refine norm_ (a' := ?_) ?_ ?_
          rotate_left
          · show Act.put _ (some 29) _ = _
            simp only [Act.put, List.setIfInBounds_toArray, List.set_cons_zero, List.set_cons_succ, i64_w, i32_w]
            rfl
          refine one_ (i := 0) (N := some 17) #[true, true, true, true, true, true, true, true, true, true, true, true, true, false, true, false, false] rfl rfl (one_of HT_.out (by kernel_rfl)) (by decide) (fun K hK => ?_)
          refine goes_ Try.func25 (by kernel_rfl) rfl #[] (by rfl) rfl rfl (by (try simp only [List.map_toArray, List.map_cons, List.map_nil]); first | done | rfl | (simp only [List.length_drop, List.length_take]; rfl) | (simp only [List.length_drop, List.length_take]; (repeat rw [Nat.min_eq_left (by simp only [eq_iff_iff, iff_true] at *; omega)]); rfl)) ?_
          with_reducible refine (req_form.calls  t105 _ A3.out).mono ?_
          rintro e w12 ⟨v106, rfl, ho0, hb⟩
          refine ⟨_, rfl, ?_⟩
          have n0_ := Aside0.mk (Kd.R_below (by (with_reducible repeat (first | apply Kd.R_alloc | apply Kd.R_drewN | apply Kd.R_drew)); exact HO110.out) hb)
          have n1_ := Aside0.mk (Kd.R_lower ho0 (below_size (by repeat (first | (with_reducible first | exact HB.out | apply below_alloc | apply pw_below_drewN | apply below_drew1 | refine below_set ?_ GE104.out) | exact HB.out))))
          have n2_ := Aside0.mk (blk_below (g := gb104) (o := .cells #[.int .u16 a0_0, .int .u16 a0_1, .int .u64 a0_2, .int .u64 a0_3, .int .u32 a0_4, .slice A0_5 l0_5.length c0_5] 28 (0, 0)) (by (with_reducible repeat (first | refine blk_drewN ?_ _ | refine blk_drew ?_ | refine blk_alloc ?_ _)); exact BK104.out) hb)
          have n3_ := Aside0.mk (below_step (by repeat (first | (with_reducible first | exact HB.out | apply below_alloc | apply pw_below_drewN | apply below_drew1 | refine below_set ?_ GE104.out) | exact HB.out)) hb)
          clear HO110
          clear BK104
          clear HB
          have HO110 := n0_
          have HO107 := n1_
          have BK104 := n2_
          have HB := n3_
          clear n0_ n1_ n2_ n3_
          (try clear hb)
          (try clear hb2)
          (try clear hk)
          (try clear hi)
          (try clear ho0)
          refine hK.out _ _ ⟨(blk_cell BK104.out 0).trans rfl, (blk_cell BK104.out 1).trans rfl, (blk_cell BK104.out 2).trans rfl, (blk_cell BK104.out 3).trans rfl, (blk_cell BK104.out 4).trans rfl, (blk_cell BK104.out 5).trans rfl⟩ (fun hHeld => ?_)
          clear hK K
          refine norm_ (a' := ?_) ?_ ?_
          rotate_left
          · show Act.put _ (some 17) _ = _
            simp only [Act.put, List.setIfInBounds_toArray, List.set_cons_zero, List.set_cons_succ, i64_w, i32_w]
            rfl
          exact norm_ (by simp only [putAll, Act.put, List.setIfInBounds_toArray, List.set_cons_zero, List.set_cons_succ]) (hCont (v106, v109) _ ⟨hHeld, (by (with_reducible repeat (first | apply Kd.R_alloc | apply Kd.R_drewN | apply Kd.R_drew)); exact HO107.out), (by (with_reducible repeat (first | apply Kd.R_alloc | apply Kd.R_drewN | apply Kd.R_drew)); exact HO110.out), (by (with_reducible repeat (first | refine blk_drewN ?_ _ | refine blk_drew ?_ | refine blk_alloc ?_ _)); exact BK104.out), (by repeat (first | (with_reducible first | exact HB.out | apply below_alloc | apply pw_below_drewN | apply below_drew1 | refine below_set ?_ GE104.out) | exact HB.out))⟩)
      rintro ⟨v106, v109⟩ w13 ⟨hS_, h0_, h1_, h2_, h3_⟩
      have n0_ : Aside0 (Kd.R (Kd.int .i64) 3 w13 w.heap.size (fun _ => True) v106 t105) := ⟨h0_⟩
      have n1_ : Aside0 (Kd.R (Kd.int .u64) 25 w13 w.heap.size (fun _ => True) v109 y108) := ⟨h1_⟩
      have n2_ : Aside0 (w13.heap[gb104]? = some (.cells #[.int .u16 a0_0, .int .u16 a0_1, .int .u64 a0_2, .int .u64 a0_3, .int .u32 a0_4, .slice A0_5 l0_5.length c0_5] 28 (0, 0))) := ⟨h2_⟩
      have n3_ : Aside0 (Below w.heap.size w w13) := ⟨h3_⟩
      clear BK104
      clear HB
      clear h0_ h1_ h2_ h3_
      have HO107 := n0_
      have HO110 := n1_
      have BK104 := n2_
      have HB := n3_
      clear n0_ n1_ n2_ n3_
      have hHeld : w13.cell? ⟨gb104, 0, none⟩ = some (.int .u16 a0_0) ∧ w13.cell? ⟨gb104, 1, none⟩ = some (.int .u16 a0_1) ∧ w13.cell? ⟨gb104, 2, none⟩ = some (.int .u64 a0_2) ∧ w13.cell? ⟨gb104, 3, none⟩ = some (.int .u64 a0_3) ∧ w13.cell? ⟨gb104, 4, none⟩ = some (.int .u32 a0_4) ∧ w13.cell? ⟨gb104, 5, none⟩ = some (.slice A0_5 l0_5.length c0_5) := hS_
      obtain ⟨Ao14, co14, eo14⟩ := Kd.R_slice HO107.out
      (first | subst eo14 | (injection eo14 with f1_ f2_ f3_; have f4_ := f1_.symm; have f5_ := f3_.symm; clear f1_ f2_ f3_; subst f4_; subst f5_))
      obtain ⟨Ao15, co15, eo15⟩ := Kd.R_slice HO110.out
      (first | subst eo15 | (injection eo15 with f1_ f2_ f3_; have f4_ := f1_.symm; have f5_ := f3_.symm; clear f1_ f2_ f3_; subst f4_; subst f5_))
      refine norm_ (a' := ?_) ?_ ?_
      rotate_left
      · simp only [putAll, Act.put, List.setIfInBounds_toArray, List.set_cons_zero, List.set_cons_succ]
        rfl
      refine one_ (i := 13) (N := some 30) #[true, true, true, true, true, true, true, true, true, true, true, true, true, true, true, false, false] rfl rfl (one_of HT_.out (by kernel_rfl)) (by decide) (fun K hK => ?_)
      refine goes_ Try.func28 (by kernel_rfl) rfl #[.slice Ao14 t105.length co14, .slice Ao15 y108.length co15] (by rfl) rfl rfl (by (try simp only [List.map_toArray, List.map_cons, List.map_nil]); first | done | rfl | (simp only [List.length_drop, List.length_take]; rfl) | (simp only [List.length_drop, List.length_take]; (repeat rw [Nat.min_eq_left (by simp only [eq_iff_iff, iff_true] at *; omega)]); rfl)) ?_
      with_reducible refine (wire_Pack.calls k _ _ t105 _ _ y108 t111 _ ?side1 ?side2 ?side3 ?side4 A4.out).mono ?_
      (case side1 => repeat (first | exact (Kd.R_reads' HO107.out).2.2 | (with_reducible refine Kd.C_alloc ?_ _) | (with_reducible refine Kd.C_drewN ?_ _) | (with_reducible refine Kd.C_drew ?_)))
      (case side2 => exact (Kd.R_reads' HO107.out).2.1)
      (case side3 => repeat (first | exact (Kd.R_reads' HO110.out).2.2 | (with_reducible refine Kd.C_alloc ?_ _) | (with_reducible refine Kd.C_drewN ?_ _) | (with_reducible refine Kd.C_drew ?_)))
      (case side4 => exact (Kd.R_reads' HO110.out).2.1)
      rintro e w16 ⟨v112, rfl, ho0, hb⟩
      refine ⟨_, rfl, ?_⟩
      have n0_ := Aside0.mk (Kd.R_below (by (with_reducible repeat (first | apply Kd.R_alloc | apply Kd.R_drewN | apply Kd.R_drew)); exact HO107.out) hb)
      have n1_ := Aside0.mk (Kd.R_below (by (with_reducible repeat (first | apply Kd.R_alloc | apply Kd.R_drewN | apply Kd.R_drew)); exact HO110.out) hb)
      have n2_ := Aside0.mk (Kd.R_lower ho0 (below_size (by repeat (first | (with_reducible first | exact HB.out | apply below_alloc | apply pw_below_drewN | apply below_drew1 | refine below_set ?_ GE104.out) | exact HB.out))))
      have n3_ := Aside0.mk (blk_below (g := gb104) (o := .cells #[.int .u16 a0_0, .int .u16 a0_1, .int .u64 a0_2, .int .u64 a0_3, .int .u32 a0_4, .slice A0_5 l0_5.length c0_5] 28 (0, 0)) (by (with_reducible repeat (first | refine blk_drewN ?_ _ | refine blk_drew ?_ | refine blk_alloc ?_ _)); exact BK104.out) hb)
      have n4_ := Aside0.mk (below_step (by repeat (first | (with_reducible first | exact HB.out | apply below_alloc | apply pw_below_drewN | apply below_drew1 | refine below_set ?_ GE104.out) | exact HB.out)) hb)
      clear HO107
      clear HO110
      clear BK104
      clear HB
      have HO107 := n0_
      have HO110 := n1_
      have HO113 := n2_
      have BK104 := n3_
      have HB := n4_
      clear n0_ n1_ n2_ n3_ n4_
      (try clear hb)
      (try clear hb2)
      (try clear hk)
      (try clear hi)
      (try clear ho0)
      refine hK.out _ _ ⟨(blk_cell BK104.out 0).trans rfl, (blk_cell BK104.out 1).trans rfl, (blk_cell BK104.out 2).trans rfl, (blk_cell BK104.out 3).trans rfl, (blk_cell BK104.out 4).trans rfl, (blk_cell BK104.out 5).trans rfl⟩ (fun hHeld => ?_)
      clear hK K
      refine norm_ (a' := ?_) ?_ ?_
      rotate_left
      · show Act.put _ (some 30) _ = _
        simp only [Act.put, List.setIfInBounds_toArray, List.set_cons_zero, List.set_cons_succ, i64_w, i32_w]
        rfl
      refine one_ (i := 15) (N := some 32) #[true, true, true, true, true, true, true, true, true, true, true, true, true, true, true, true, false] rfl rfl (one_of HT_.out (by kernel_rfl)) (by decide) (fun K hK => ?_)
      refine Kd.R_append_rows_step (Kd.int .u8) (w0 := w) w.heap.size (by rfl) (.tmp 30) (.tmp 31) 22 5 (.int .u8 0) 1 rfl Try.underlying22 info5 rfl (by decide) (by omega) v112 t111 l0_5 _ _ _ (fun _ => True) (fun _ => False) rfl rfl ?aO ?aR (fun _ _ h => h) (fun _ h => h.elim) ?aF ?aB ?aS ?aL ?_
      (case aR => repeat (first | exact (Kd.C_below HR0_5.out HB.out) | (with_reducible refine Kd.C_alloc ?_ _) | (with_reducible refine Kd.C_drewN ?_ _) | (with_reducible refine Kd.C_drew ?_)))
      (case aB => exact (by repeat (first | (with_reducible first | exact HB.out | apply below_alloc | apply pw_below_drewN | apply below_drew1 | refine below_set ?_ GE104.out) | exact HB.out)))
      (case aF => exact (fun _ _ => trivial))
      (case aO => exact (by (with_reducible repeat (first | apply Kd.R_alloc | apply Kd.R_drewN | apply Kd.R_drew)); exact HO113.out))
      (case aS => exact (below_size (by repeat (first | (with_reducible first | exact HB.out | apply below_alloc | apply pw_below_drewN | apply below_drew1 | refine below_set ?_ GE104.out) | exact HB.out))))
      (case aL => have := LMc5.out; omega)
      intro v115 w17 ho hb hg hat
      rw [← Ny114.out] at ho
      have n0_ := Aside0.mk (blk_grown (g := gb104) (o := .cells #[.int .u16 a0_0, .int .u16 a0_1, .int .u64 a0_2, .int .u64 a0_3, .int .u32 a0_4, .slice A0_5 l0_5.length c0_5] 28 (0, 0)) (by (with_reducible repeat (first | refine blk_drewN ?_ _ | refine blk_drew ?_ | refine blk_alloc ?_ _)); exact BK104.out) hg (Kd.R_ne HO113.out BK104.out (by decide)))
      have n1_ := Aside0.mk (Kd.R_over' (by (with_reducible repeat (first | apply Kd.R_alloc | apply Kd.R_drewN | apply Kd.R_drew)); exact HO107.out) (Kd.R_typed (by (with_reducible repeat (first | apply Kd.R_alloc | apply Kd.R_drewN | apply Kd.R_drew)); exact HO113.out)) (by decide) hg)
      have n2_ := Aside0.mk (Kd.R_over' (by (with_reducible repeat (first | apply Kd.R_alloc | apply Kd.R_drewN | apply Kd.R_drew)); exact HO110.out) (Kd.R_typed (by (with_reducible repeat (first | apply Kd.R_alloc | apply Kd.R_drewN | apply Kd.R_drew)); exact HO113.out)) (by decide) hg)
      have n3_ := Aside0.mk (hb)
      have n4_ := Aside0.mk (ho)
      clear BK104
      clear HO107
      clear HO110
      clear HB
      clear HO113
      have BK104 := n0_
      have HO107 := n1_
      have HO110 := n2_
      have HB := n3_
      have HO116 := n4_
      clear n0_ n1_ n2_ n3_ n4_
      clear ho hb hg hat
      refine hK.out _ _ ⟨(blk_cell BK104.out 0).trans rfl, (blk_cell BK104.out 1).trans rfl, (blk_cell BK104.out 2).trans rfl, (blk_cell BK104.out 3).trans rfl, (blk_cell BK104.out 4).trans rfl, (blk_cell BK104.out 5).trans rfl⟩ (fun hHeld => ?_)
      clear hK K
      refine norm_ (a' := ?_) ?_ ?_
      rotate_left
      · show Act.put _ (some 32) _ = _
        simp only [Act.put, List.setIfInBounds_toArray, List.set_cons_zero, List.set_cons_succ, i64_w, i32_w]
        rfl
      refine pure_ (i := 16) (N := some 2) (v := ?_) (a' := ?_) #[true, true, true, true, true, true, true, true, true, true, true, true, true, true, true, true, true] rfl rfl (any_of HT_.out (by kernel_rfl)) (fun _ _ _ h => h) (Or.inl ⟨by rfl, ?_⟩) ?_ ?_
      rotate_left
      · intro w'
        go_simp
        with_reducible rfl
      rotate_left
      · simp only [Act.put, List.setIfInBounds_toArray, List.set_cons_zero, List.set_cons_succ, i64_w, i32_w]
        rfl
      refine done_ (done_of HT_.out (by kernel_rfl)) ?_
      try go_wp2
      go_ret
      exact ⟨_, by first | rfl | (simp [errW_none, errW_some] <;> rfl) | (simp [*, errW_none, errW_some] <;> rfl), by (with_reducible repeat (first | apply Kd.R_alloc | apply Kd.R_drewN | apply Kd.R_drew)); exact HO116.out, by repeat (first | (with_reducible first | exact HB.out | apply below_alloc | apply pw_below_drewN | apply below_drew1 | refine below_set ?_ GE104.out) | exact HB.out)⟩
    · rw [if_neg c5] at H
      exact absurd H (by simp)
  · rw [if_neg c2] at H
    have c2b0 : (a0_1 == 1) = false := beq_eq_false_iff_ne.mpr c2
    have c2b1 : (a0_1 != 1) = true := bne_iff_ne.mpr c2
    replace H := Option.bind_eq_some_iff.mp H
    obtain ⟨t117, A180, H⟩ := H
    replace H : ((wire_Pack.f k t117 (([627086611, IntKind.u64.wrap (a0_0), IntKind.u64.wrap (a0_1), a0_2, a0_3, IntKind.u64.wrap (a0_4)] : List Int))).bind fun t123 => (some t123)) = some r := H
    have A18 := Aside0.mk A180
    clear A180
    obtain ⟨y120, hy120⟩ : ∃ y_ : List Int, y_ = (([627086611, IntKind.u64.wrap (a0_0), IntKind.u64.wrap (a0_1), a0_2, a0_3, IntKind.u64.wrap (a0_4)] : List Int)) := ⟨_, rfl⟩
    replace H : ((wire_Pack.f k t117 y120).bind fun t123 => (some t123)) = some r := by first | (rw [hy120]; with_reducible exact H) | (have H2_ := (Option.bind_some _ _).symm.trans H; rw [hy120]; with_reducible exact H2_) | (have H2_ := (Option.bind_some _ _).symm.trans H; with_reducible exact H2_) | with_reducible exact H | (rw [hy120]; exact H) | exact H
    have Ny120 := Aside0.mk hy120
    clear hy120
    replace H := Option.bind_eq_some_iff.mp H
    obtain ⟨t123, A190, H⟩ := H
    replace H : (some t123) = some r := H
    have A19 := Aside0.mk A190
    clear A190
    obtain rfl := Option.some.inj H
    go_enter Try.func16, Try.ntmps16
    try go_wp2_with (first | ((with_reducible refine gate_dst (N := 1) rfl ?_); refine box_event ?hg (N := 1) ?hd (cs := #[.int .u16 a0_0, .int .u16 a0_1, .int .u64 a0_2, .int .u64 a0_3, .int .u32 a0_4, .slice A0_5 l0_5.length c0_5]) (t := 28) ?hr ?_; (case hd => rfl); (case hg => rfl); (case hr => first | (go_simp; done) | (go_simp; rfl)); intro gb104 hg w20 hbox hb; have n0_ := Aside0.mk (below_step (by repeat (first | (with_reducible first | exact HB.out | apply below_alloc | apply pw_below_drewN | apply below_drew1) | exact HB.out)) hb); have n1_ := Aside0.mk (hbox); have n2_ := Aside0.mk ((by rw [hg]; exact (below_size (by repeat (first | (with_reducible first | exact HB.out | apply below_alloc | apply pw_below_drewN | apply below_drew1) | exact HB.out))) : w.heap.size ≤ gb104)); have n3_ := Aside0.mk ((by rw [hg]; exact (below_size (by repeat (first | (with_reducible first | exact HB.out | apply below_alloc | apply pw_below_drewN | apply below_drew1) | exact HB.out))) : w.heap.size ≤ gb104)); clear HB; have HB := n0_; have BK104 := n1_; have GW104 := n2_; have GE104 := n3_; clear n0_ n1_ n2_ n3_; clear hb hbox hg; have hcz21_0 : w20.cell? ⟨gb104, 0, none⟩ = some (.int .u16 a0_0) := (blk_cell BK104.out 0).trans rfl; have hcz21_1 : w20.cell? ⟨gb104, 1, none⟩ = some (.int .u16 a0_1) := (blk_cell BK104.out 1).trans rfl; have hcz21_2 : w20.cell? ⟨gb104, 2, none⟩ = some (.int .u64 a0_2) := (blk_cell BK104.out 2).trans rfl; have hcz21_3 : w20.cell? ⟨gb104, 3, none⟩ = some (.int .u64 a0_3) := (blk_cell BK104.out 3).trans rfl; have hcz21_4 : w20.cell? ⟨gb104, 4, none⟩ = some (.int .u32 a0_4) := (blk_cell BK104.out 4).trans rfl; have hcz21_5 : w20.cell? ⟨gb104, 5, none⟩ = some (.slice A0_5 l0_5.length c0_5) := (blk_cell BK104.out 5).trans rfl; have hfz21_0 := blk_frozen BK104.out 0; have hfz21_1 := blk_frozen BK104.out 1; have hfz21_2 := blk_frozen BK104.out 2; have hfz21_3 := blk_frozen BK104.out 3; have hfz21_4 := blk_frozen BK104.out 4; have hfz21_5 := blk_frozen BK104.out 5))
    have n0_ := Aside0.mk (blk_drew BK104.out)
    have n1_ := Aside0.mk (below_drew1 HB.out)
    clear BK104
    clear HB
    have BK104 := n0_
    have HB := n1_
    clear n0_ n1_
    refine start_ (n := 17) (S := fun w' => True) (ds := []) #[false, false, false, false, false, false, false, false, false, false, false, false, false, false, false, false, false] (by kernel_rfl) rfl rfl trivial (fun hHeld => ?_); refine with_tabW req_Write.tab5 req_Write.bits5 (fun HT_ HW_ => ?_)
    generalize w20.drew = w22 at BK104 HB hHeld ⊢
    refine pure_ (i := 1) (N := some 18) (v := ?_) (a' := ?_) #[false, true, false, false, false, false, false, false, false, false, false, false, false, false, false, false, false] rfl rfl (any_of HT_.out (by kernel_rfl)) (fun _ _ _ h => h) (Or.inl ⟨by rfl, ?_⟩) ?_ ?_
    rotate_left
    · intro w'
      go_simp
      with_reducible rfl
    rotate_left
    · simp only [Act.put, List.setIfInBounds_toArray, List.set_cons_zero, List.set_cons_succ, i64_w, i32_w]
      rfl
    refine pure_ (i := 4) (N := some 21) (v := ?_) (a' := ?_) #[false, true, false, false, true, false, false, false, false, false, false, false, false, false, false, false, false] rfl rfl (any_of HT_.out (by kernel_rfl)) (fun _ _ _ h => h) (Or.inl ⟨by rfl, ?_⟩) ?_ ?_
    rotate_left
    · intro w'
      go_simp
      with_reducible rfl
    rotate_left
    · simp only [Act.put, List.setIfInBounds_toArray, List.set_cons_zero, List.set_cons_succ, i64_w, i32_w]
      rfl
    refine pure_ (i := 7) (N := some 24) (v := ?_) (a' := ?_) #[false, true, false, false, true, false, false, true, false, false, false, false, false, false, false, false, false] rfl rfl (any_of HT_.out (by kernel_rfl)) (fun _ _ _ h => h) (Or.inl ⟨by rfl, ?_⟩) ?_ ?_
    rotate_left
    · intro w'
      go_simp
      with_reducible rfl
    rotate_left
    · simp only [Act.put, List.setIfInBounds_toArray, List.set_cons_zero, List.set_cons_succ, i64_w, i32_w]
      rfl
    refine pure_ (i := 9) (N := some 26) (v := ?_) (a' := ?_) #[false, true, false, false, true, false, false, true, false, true, false, false, false, false, false, false, false] rfl rfl (any_of HT_.out (by kernel_rfl)) (fun _ _ _ h => h) (Or.inl ⟨by rfl, ?_⟩) ?_ ?_
    rotate_left
    · intro w'
      go_simp
      with_reducible rfl
    rotate_left
    · simp only [Act.put, List.setIfInBounds_toArray, List.set_cons_zero, List.set_cons_succ, i64_w, i32_w]
      rfl
    refine pure_ (i := 11) (N := some 28) (v := ?_) (a' := ?_) #[false, true, false, false, true, false, false, true, false, true, false, true, false, false, false, false, false] rfl rfl (any_of HT_.out (by kernel_rfl)) (fun _ _ _ h => h) (Or.inl ⟨by rfl, ?_⟩) ?_ ?_
    rotate_left
    · intro w'
      go_simp
      with_reducible rfl
    rotate_left
    · simp only [Act.put, List.setIfInBounds_toArray, List.set_cons_zero, List.set_cons_succ, i64_w, i32_w]
      rfl
    refine pure_ (i := 14) (N := some 31) (v := ?_) (a' := ?_) #[false, true, false, false, true, false, false, true, false, true, false, true, false, false, true, false, false] rfl rfl (any_of HT_.out (by kernel_rfl)) (fun _ _ _ h => h) (Or.inl ⟨by rfl, ?_⟩) ?_ ?_
    rotate_left
    · intro w'
      go_simp
      with_reducible rfl
    rotate_left
    · simp only [Act.put, List.setIfInBounds_toArray, List.set_cons_zero, List.set_cons_succ, i64_w, i32_w]
      rfl
    refine inv_at [0, 2, 3, 5, 6, 8, 10, 12, 13, 15, 16] (fun a0_ b a w' => ∃ (v118 : Value) (v121 : Value) (v124 : Value) (m15_ : Value) (m16_ : Value), a = putSel a0_ b [(0, 17, v118), (2, 19, .int .u16 a0_0), (3, 20, .int .u64 (IntKind.u64.wrap (a0_0))), (5, 22, .int .u16 a0_1), (6, 23, .int .u64 (IntKind.u64.wrap (a0_1))), (8, 25, .int .u64 a0_2), (10, 27, .int .u64 a0_3), (12, 29, v121), (13, 30, v124), (15, 32, m15_), (16, 2, m16_)] ∧ (w'.heap[gb104]? = some (.cells #[.int .u16 a0_0, .int .u16 a0_1, .int .u64 a0_2, .int .u64 a0_3, .int .u32 a0_4, .slice A0_5 l0_5.length c0_5] 28 (0, 0))) ∧ (Below w.heap.size w w') ∧ (b 0 = true → Kd.R (Kd.int .i64) 3 w' w.heap.size (fun _ => True) v118 t117) ∧ (b 12 = true → Kd.R (Kd.int .u64) 25 w' w.heap.size (fun _ => True) v121 y120) ∧ (b 13 = true → Kd.R (Kd.int .u8) 5 w' w.heap.size (fun _ => True) v124 t123) ∧ (b 15 = true → (m15_ : Value) = v124) ∧ (b 16 = true → (m16_ : Value) = v124)) HT_.out HW_.out (by kernel_rfl) (by kernel_rfl) ?_ ?_ ?_
    · exact ⟨.bool false, .bool false, .bool false, .bool false, .bool false, by simp only [putSel, Bool.false_eq_true, if_false], BK104.out, HB.out, fun h_ => absurd h_ (by decide), fun h_ => absurd h_ (by decide), fun h_ => absurd h_ (by decide), fun h_ => absurd h_ (by decide), fun h_ => absurd h_ (by decide)⟩
    · skip
      clear BK104 HB
      refine steps_cons ?_ ?_
      · rintro b a w' ⟨v118, v121, v124, m15_, m16_, ha, Q_BK104, Q_HB, Q_HO119, Q_HO122, Q_HO125, Q_X15_, Q_X16_⟩ hb_ hon hoff
        refine ⟨_, rfl, fun K hK => ?_⟩
        replace ha := Aside0.mk ha
        have BK104 := Aside0.mk Q_BK104
        have HB := Aside0.mk Q_HB
        refine goes_ Try.func25 (by kernel_rfl) rfl #[] (by rfl) rfl rfl (by first | (simp only [List.map_toArray, List.map_cons, List.map_nil, Act.eval, Array.getD_eq_getD_getElem?, Option.getD_some]; done) | (simp only [List.map_toArray, List.map_cons, List.map_nil, Act.eval, Array.getD_eq_getD_getElem?, Option.getD_some]; rfl)) ?_
        with_reducible refine (req_form.calls  t117 _ A18.out).mono ?_
        rintro e w23 ⟨v118, rfl, ho0, hb⟩
        refine ⟨_, rfl, ?_⟩
        have n0_ := Aside0.mk (Kd.R_lower ho0 (below_size (by repeat (first | (with_reducible first | exact HB.out | apply below_alloc | apply pw_below_drewN | apply below_drew1 | refine below_set ?_ GE104.out) | exact HB.out))))
        have n1_ := Aside0.mk (blk_below (g := gb104) (o := .cells #[.int .u16 a0_0, .int .u16 a0_1, .int .u64 a0_2, .int .u64 a0_3, .int .u32 a0_4, .slice A0_5 l0_5.length c0_5] 28 (0, 0)) (by (with_reducible repeat (first | refine blk_drewN ?_ _ | refine blk_drew ?_ | refine blk_alloc ?_ _)); exact BK104.out) hb)
        have n2_ := Aside0.mk (below_step (by repeat (first | (with_reducible first | exact HB.out | apply below_alloc | apply pw_below_drewN | apply below_drew1 | refine below_set ?_ GE104.out) | exact HB.out)) hb)
        have z_HO122 := fun (h0_ : b 12 = true) => (show Kd.R (Kd.int .u64) 25 w23 w.heap.size (fun _ => True) v121 y120 from by first | exact (Kd.R_below (by (with_reducible repeat (first | apply Kd.R_alloc | apply Kd.R_drewN | apply Kd.R_drew)); exact (Q_HO122 h0_)) hb) | exact Kd.R_mono (Kd.R_below (by (with_reducible repeat (first | apply Kd.R_alloc | apply Kd.R_drewN | apply Kd.R_drew)); exact (Q_HO122 h0_)) hb) (fun _ h_ => by first | trivial | exact h_ | exact h_.1))
        clear BK104
        clear HB
        have HO119 := n0_
        have BK104 := n1_
        have HB := n2_
        clear n0_ n1_ n2_
        (try clear hb)
        (try clear hb2)
        (try clear hk)
        (try clear hi)
        (try clear ho0)
        refine hK.out _ _ ⟨v118, v121, v124, m15_, m16_, (by rw [ha.out]; exact putSel_upk 0 hb_ rfl rfl rfl), (by (with_reducible repeat (first | refine blk_drewN ?_ _ | refine blk_drew ?_ | refine blk_alloc ?_ _)); exact BK104.out), (by repeat (first | (with_reducible first | exact HB.out | apply below_alloc | apply pw_below_drewN | apply below_drew1 | refine below_set ?_ GE104.out) | exact HB.out)), fun _ => (by (with_reducible repeat (first | apply Kd.R_alloc | apply Kd.R_drewN | apply Kd.R_drew)); exact HO119.out), z_HO122, fun h0_ => absurd ((hoff 13 (by kernel_rfl)).symm.trans h0_) (by decide), fun h0_ => absurd ((hoff 15 (by kernel_rfl)).symm.trans h0_) (by decide), fun h0_ => absurd ((hoff 16 (by kernel_rfl)).symm.trans h0_) (by decide)⟩
      refine steps_cons ?_ ?_
      · rintro b a w' ⟨v118, v121, v124, m15_, m16_, ha, Q_BK104, Q_HB, Q_HO119, Q_HO122, Q_HO125, Q_X15_, Q_X16_⟩ hb_ hon hoff
        refine ⟨_, rfl, fun K hK => ?_⟩
        have e18 : a.tmps[18]? = some (.pointer (some ⟨gb104, 0, none⟩)) := by rw [ha]; exact (putSel_off rfl).trans rfl
        replace ha := Aside0.mk ha
        have BK104 := Aside0.mk Q_BK104
        have HB := Aside0.mk Q_HB
        have hc0_ : w'.cell? ⟨gb104, 0, none⟩ = some (.int .u16 a0_0) := (blk_cell BK104.out 0).trans rfl
        have hc1_ : w'.cell? ⟨gb104, 1, none⟩ = some (.int .u16 a0_1) := (blk_cell BK104.out 1).trans rfl
        have hc2_ : w'.cell? ⟨gb104, 2, none⟩ = some (.int .u64 a0_2) := (blk_cell BK104.out 2).trans rfl
        have hc3_ : w'.cell? ⟨gb104, 3, none⟩ = some (.int .u64 a0_3) := (blk_cell BK104.out 3).trans rfl
        have hc4_ : w'.cell? ⟨gb104, 4, none⟩ = some (.int .u32 a0_4) := (blk_cell BK104.out 4).trans rfl
        have hc5_ : w'.cell? ⟨gb104, 5, none⟩ = some (.slice A0_5 l0_5.length c0_5) := (blk_cell BK104.out 5).trans rfl
        refine value_ (w1 := w') (v := .int .u16 a0_0) (by rfl) rfl ?_ ?_
        · go_simp
          (try simp only [i64_w])
          try rfl
        refine hK.out _ _ ⟨v118, v121, v124, m15_, m16_, (by rw [ha.out]; exact putSel_upk 1 hb_ rfl rfl rfl), Q_BK104, Q_HB, Q_HO119, fun h0_ => absurd ((hoff 12 (by kernel_rfl)).symm.trans h0_) (by decide), fun h0_ => absurd ((hoff 13 (by kernel_rfl)).symm.trans h0_) (by decide), fun h0_ => absurd ((hoff 15 (by kernel_rfl)).symm.trans h0_) (by decide), fun h0_ => absurd ((hoff 16 (by kernel_rfl)).symm.trans h0_) (by decide)⟩
      refine steps_cons ?_ ?_
      · rintro b a w' ⟨v118, v121, v124, m15_, m16_, ha, Q_BK104, Q_HB, Q_HO119, Q_HO122, Q_HO125, Q_X15_, Q_X16_⟩ hb_ hon hoff
        refine ⟨_, rfl, fun K hK => ?_⟩
        have e19 : a.tmps[19]? = some (.int .u16 a0_0) := by rw [ha]; exact putSel_on (e := (2, 19, .int .u16 a0_0)) 1 rfl rfl (hon 2 (by kernel_rfl)) rfl
        replace ha := Aside0.mk ha
        have BK104 := Aside0.mk Q_BK104
        have HB := Aside0.mk Q_HB
        refine value_ (w1 := w') (v := .int .u64 (IntKind.u64.wrap (a0_0))) (by rfl) rfl ?_ ?_
        · go_simp
          (try simp only [i64_w])
          try rfl
        refine hK.out _ _ ⟨v118, v121, v124, m15_, m16_, (by rw [ha.out]; exact putSel_upk 2 hb_ rfl rfl rfl), Q_BK104, Q_HB, Q_HO119, fun h0_ => absurd ((hoff 12 (by kernel_rfl)).symm.trans h0_) (by decide), fun h0_ => absurd ((hoff 13 (by kernel_rfl)).symm.trans h0_) (by decide), fun h0_ => absurd ((hoff 15 (by kernel_rfl)).symm.trans h0_) (by decide), fun h0_ => absurd ((hoff 16 (by kernel_rfl)).symm.trans h0_) (by decide)⟩
      refine steps_cons ?_ ?_
      · rintro b a w' ⟨v118, v121, v124, m15_, m16_, ha, Q_BK104, Q_HB, Q_HO119, Q_HO122, Q_HO125, Q_X15_, Q_X16_⟩ hb_ hon hoff
        refine ⟨_, rfl, fun K hK => ?_⟩
        have e21 : a.tmps[21]? = some (.pointer (some ⟨gb104, 1, none⟩)) := by rw [ha]; exact (putSel_off rfl).trans rfl
        replace ha := Aside0.mk ha
        have BK104 := Aside0.mk Q_BK104
        have HB := Aside0.mk Q_HB
        have hc0_ : w'.cell? ⟨gb104, 0, none⟩ = some (.int .u16 a0_0) := (blk_cell BK104.out 0).trans rfl
        have hc1_ : w'.cell? ⟨gb104, 1, none⟩ = some (.int .u16 a0_1) := (blk_cell BK104.out 1).trans rfl
        have hc2_ : w'.cell? ⟨gb104, 2, none⟩ = some (.int .u64 a0_2) := (blk_cell BK104.out 2).trans rfl
        have hc3_ : w'.cell? ⟨gb104, 3, none⟩ = some (.int .u64 a0_3) := (blk_cell BK104.out 3).trans rfl
        have hc4_ : w'.cell? ⟨gb104, 4, none⟩ = some (.int .u32 a0_4) := (blk_cell BK104.out 4).trans rfl
        have hc5_ : w'.cell? ⟨gb104, 5, none⟩ = some (.slice A0_5 l0_5.length c0_5) := (blk_cell BK104.out 5).trans rfl
        refine value_ (w1 := w') (v := .int .u16 a0_1) (by rfl) rfl ?_ ?_
        · go_simp
          (try simp only [i64_w])
          try rfl
        refine hK.out _ _ ⟨v118, v121, v124, m15_, m16_, (by rw [ha.out]; exact putSel_upk 3 hb_ rfl rfl rfl), Q_BK104, Q_HB, Q_HO119, fun h0_ => absurd ((hoff 12 (by kernel_rfl)).symm.trans h0_) (by decide), fun h0_ => absurd ((hoff 13 (by kernel_rfl)).symm.trans h0_) (by decide), fun h0_ => absurd ((hoff 15 (by kernel_rfl)).symm.trans h0_) (by decide), fun h0_ => absurd ((hoff 16 (by kernel_rfl)).symm.trans h0_) (by decide)⟩
      refine steps_cons ?_ ?_
      · rintro b a w' ⟨v118, v121, v124, m15_, m16_, ha, Q_BK104, Q_HB, Q_HO119, Q_HO122, Q_HO125, Q_X15_, Q_X16_⟩ hb_ hon hoff
        refine ⟨_, rfl, fun K hK => ?_⟩
        have e22 : a.tmps[22]? = some (.int .u16 a0_1) := by rw [ha]; exact putSel_on (e := (5, 22, .int .u16 a0_1)) 3 rfl rfl (hon 5 (by kernel_rfl)) rfl
        replace ha := Aside0.mk ha
        have BK104 := Aside0.mk Q_BK104
        have HB := Aside0.mk Q_HB
        refine value_ (w1 := w') (v := .int .u64 (IntKind.u64.wrap (a0_1))) (by rfl) rfl ?_ ?_
        · go_simp
          (try simp only [i64_w])
          try rfl
        refine hK.out _ _ ⟨v118, v121, v124, m15_, m16_, (by rw [ha.out]; exact putSel_upk 4 hb_ rfl rfl rfl), Q_BK104, Q_HB, Q_HO119, fun h0_ => absurd ((hoff 12 (by kernel_rfl)).symm.trans h0_) (by decide), fun h0_ => absurd ((hoff 13 (by kernel_rfl)).symm.trans h0_) (by decide), fun h0_ => absurd ((hoff 15 (by kernel_rfl)).symm.trans h0_) (by decide), fun h0_ => absurd ((hoff 16 (by kernel_rfl)).symm.trans h0_) (by decide)⟩
      refine steps_cons ?_ ?_
      · rintro b a w' ⟨v118, v121, v124, m15_, m16_, ha, Q_BK104, Q_HB, Q_HO119, Q_HO122, Q_HO125, Q_X15_, Q_X16_⟩ hb_ hon hoff
        refine ⟨_, rfl, fun K hK => ?_⟩
        have e24 : a.tmps[24]? = some (.pointer (some ⟨gb104, 2, none⟩)) := by rw [ha]; exact (putSel_off rfl).trans rfl
        replace ha := Aside0.mk ha
        have BK104 := Aside0.mk Q_BK104
        have HB := Aside0.mk Q_HB
        have hc0_ : w'.cell? ⟨gb104, 0, none⟩ = some (.int .u16 a0_0) := (blk_cell BK104.out 0).trans rfl
        have hc1_ : w'.cell? ⟨gb104, 1, none⟩ = some (.int .u16 a0_1) := (blk_cell BK104.out 1).trans rfl
        have hc2_ : w'.cell? ⟨gb104, 2, none⟩ = some (.int .u64 a0_2) := (blk_cell BK104.out 2).trans rfl
        have hc3_ : w'.cell? ⟨gb104, 3, none⟩ = some (.int .u64 a0_3) := (blk_cell BK104.out 3).trans rfl
        have hc4_ : w'.cell? ⟨gb104, 4, none⟩ = some (.int .u32 a0_4) := (blk_cell BK104.out 4).trans rfl
        have hc5_ : w'.cell? ⟨gb104, 5, none⟩ = some (.slice A0_5 l0_5.length c0_5) := (blk_cell BK104.out 5).trans rfl
        refine value_ (w1 := w') (v := .int .u64 a0_2) (by rfl) rfl ?_ ?_
        · go_simp
          (try simp only [i64_w])
          try rfl
        refine hK.out _ _ ⟨v118, v121, v124, m15_, m16_, (by rw [ha.out]; exact putSel_upk 5 hb_ rfl rfl rfl), Q_BK104, Q_HB, Q_HO119, fun h0_ => absurd ((hoff 12 (by kernel_rfl)).symm.trans h0_) (by decide), fun h0_ => absurd ((hoff 13 (by kernel_rfl)).symm.trans h0_) (by decide), fun h0_ => absurd ((hoff 15 (by kernel_rfl)).symm.trans h0_) (by decide), fun h0_ => absurd ((hoff 16 (by kernel_rfl)).symm.trans h0_) (by decide)⟩
      refine steps_cons ?_ ?_
      · rintro b a w' ⟨v118, v121, v124, m15_, m16_, ha, Q_BK104, Q_HB, Q_HO119, Q_HO122, Q_HO125, Q_X15_, Q_X16_⟩ hb_ hon hoff
        refine ⟨_, rfl, fun K hK => ?_⟩
        have e26 : a.tmps[26]? = some (.pointer (some ⟨gb104, 3, none⟩)) := by rw [ha]; exact (putSel_off rfl).trans rfl
        replace ha := Aside0.mk ha
        have BK104 := Aside0.mk Q_BK104
        have HB := Aside0.mk Q_HB
        have hc0_ : w'.cell? ⟨gb104, 0, none⟩ = some (.int .u16 a0_0) := (blk_cell BK104.out 0).trans rfl
        have hc1_ : w'.cell? ⟨gb104, 1, none⟩ = some (.int .u16 a0_1) := (blk_cell BK104.out 1).trans rfl
        have hc2_ : w'.cell? ⟨gb104, 2, none⟩ = some (.int .u64 a0_2) := (blk_cell BK104.out 2).trans rfl
        have hc3_ : w'.cell? ⟨gb104, 3, none⟩ = some (.int .u64 a0_3) := (blk_cell BK104.out 3).trans rfl
        have hc4_ : w'.cell? ⟨gb104, 4, none⟩ = some (.int .u32 a0_4) := (blk_cell BK104.out 4).trans rfl
        have hc5_ : w'.cell? ⟨gb104, 5, none⟩ = some (.slice A0_5 l0_5.length c0_5) := (blk_cell BK104.out 5).trans rfl
        refine value_ (w1 := w') (v := .int .u64 a0_3) (by rfl) rfl ?_ ?_
        · go_simp
          (try simp only [i64_w])
          try rfl
        refine hK.out _ _ ⟨v118, v121, v124, m15_, m16_, (by rw [ha.out]; exact putSel_upk 6 hb_ rfl rfl rfl), Q_BK104, Q_HB, Q_HO119, fun h0_ => absurd ((hoff 12 (by kernel_rfl)).symm.trans h0_) (by decide), fun h0_ => absurd ((hoff 13 (by kernel_rfl)).symm.trans h0_) (by decide), fun h0_ => absurd ((hoff 15 (by kernel_rfl)).symm.trans h0_) (by decide), fun h0_ => absurd ((hoff 16 (by kernel_rfl)).symm.trans h0_) (by decide)⟩
      refine steps_cons ?_ ?_
      · rintro b a w' ⟨v118, v121, v124, m15_, m16_, ha, Q_BK104, Q_HB, Q_HO119, Q_HO122, Q_HO125, Q_X15_, Q_X16_⟩ hb_ hon hoff
        refine ⟨_, rfl, fun K hK => ?_⟩
        have e20 : a.tmps[20]? = some (.int .u64 (IntKind.u64.wrap (a0_0))) := by rw [ha]; exact putSel_on (e := (3, 20, .int .u64 (IntKind.u64.wrap (a0_0)))) 2 rfl rfl (hon 3 (by kernel_rfl)) rfl
        have e23 : a.tmps[23]? = some (.int .u64 (IntKind.u64.wrap (a0_1))) := by rw [ha]; exact putSel_on (e := (6, 23, .int .u64 (IntKind.u64.wrap (a0_1)))) 4 rfl rfl (hon 6 (by kernel_rfl)) rfl
        have e25 : a.tmps[25]? = some (.int .u64 a0_2) := by rw [ha]; exact putSel_on (e := (8, 25, .int .u64 a0_2)) 5 rfl rfl (hon 8 (by kernel_rfl)) rfl
        have e27 : a.tmps[27]? = some (.int .u64 a0_3) := by rw [ha]; exact putSel_on (e := (10, 27, .int .u64 a0_3)) 6 rfl rfl (hon 10 (by kernel_rfl)) rfl
        have e28 : a.tmps[28]? = some (.int .u64 (IntKind.u64.wrap (a0_4))) := by rw [ha]; exact (putSel_off rfl).trans rfl
        replace ha := Aside0.mk ha
        have BK104 := Aside0.mk Q_BK104
        have HB := Aside0.mk Q_HB
        refine Kd.R_lit_step (Kd.int .u64) _ 25 ?hg (N := 29) ?hd (xs := ([627086611, IntKind.u64.wrap (a0_0), IntKind.u64.wrap (a0_1), a0_2, a0_3, IntKind.u64.wrap (a0_4)] : List Int)) (inner := [.int .u64 627086611, .int .u64 (IntKind.u64.wrap (a0_0)), .int .u64 (IntKind.u64.wrap (a0_1)), .int .u64 a0_2, .int .u64 a0_3, .int .u64 (IntKind.u64.wrap (a0_4))]) (ok := fun _ => True) (okp := fun _ => True) ?hr ?hp (fun _ hk => hk) trivial (Below.refl _ _) (Nat.le_refl _) (by simp) ?_; (case hd => rfl); (case hg => rfl); (case hr => first | (go_simp; done) | (go_simp; rfl)); (case hp => exact (Reps.one (show Kd.M (Kd.int .u64) _ _ _ 627086611 [.int .u64 627086611] from rfl) (Reps.one (show Kd.M (Kd.int .u64) _ _ _ (IntKind.u64.wrap (a0_0)) [.int .u64 (IntKind.u64.wrap (a0_0))] from rfl) (Reps.one (show Kd.M (Kd.int .u64) _ _ _ (IntKind.u64.wrap (a0_1)) [.int .u64 (IntKind.u64.wrap (a0_1))] from rfl) (Reps.one (show Kd.M (Kd.int .u64) _ _ _ a0_2 [.int .u64 a0_2] from rfl) (Reps.one (show Kd.M (Kd.int .u64) _ _ _ a0_3 [.int .u64 a0_3] from rfl) (Reps.one (show Kd.M (Kd.int .u64) _ _ _ (IntKind.u64.wrap (a0_4)) [.int .u64 (IntKind.u64.wrap (a0_4))] from rfl) (Reps.none _ _))))))))
        intro v121 w23 ho24 hb hg_ hnew_
        clear hg_ hnew_
        (first | rw [← Ny120.out] at ho24 | (simp only [Int.reduceToNat] at ho24; rw [← Ny120.out] at ho24))
        have n0_ := Aside0.mk (Kd.R_lower ho24 (below_size (by repeat (first | (with_reducible first | exact HB.out | apply below_alloc | apply pw_below_drewN | apply below_drew1 | refine below_set ?_ GE104.out) | exact HB.out))))
        have n1_ := Aside0.mk (blk_below (g := gb104) (o := .cells #[.int .u16 a0_0, .int .u16 a0_1, .int .u64 a0_2, .int .u64 a0_3, .int .u32 a0_4, .slice A0_5 l0_5.length c0_5] 28 (0, 0)) (by (with_reducible repeat (first | refine blk_drewN ?_ _ | refine blk_drew ?_ | refine blk_alloc ?_ _)); exact BK104.out) hb)
        have n2_ := Aside0.mk (below_step (by repeat (first | (with_reducible first | exact HB.out | apply below_alloc | apply pw_below_drewN | apply below_drew1 | refine below_set ?_ GE104.out) | exact HB.out)) hb)
        have z_HO119 := fun (h0_ : b 0 = true) => (show Kd.R (Kd.int .i64) 3 w23 w.heap.size (fun _ => True) v118 t117 from by first | exact (Kd.R_below (by (with_reducible repeat (first | apply Kd.R_alloc | apply Kd.R_drewN | apply Kd.R_drew)); exact (Q_HO119 h0_)) hb) | exact Kd.R_mono (Kd.R_below (by (with_reducible repeat (first | apply Kd.R_alloc | apply Kd.R_drewN | apply Kd.R_drew)); exact (Q_HO119 h0_)) hb) (fun _ h_ => by first | trivial | exact h_ | exact h_.1))
        clear BK104
        clear HB
        have HO122 := n0_
        have BK104 := n1_
        have HB := n2_
        clear n0_ n1_ n2_
        clear hb ho24
        refine hK.out _ _ ⟨v118, v121, v124, m15_, m16_, (by rw [ha.out]; exact putSel_upk 7 hb_ rfl rfl rfl), (by (with_reducible repeat (first | refine blk_drewN ?_ _ | refine blk_drew ?_ | refine blk_alloc ?_ _)); exact BK104.out), (by repeat (first | (with_reducible first | exact HB.out | apply below_alloc | apply pw_below_drewN | apply below_drew1 | refine below_set ?_ GE104.out) | exact HB.out)), z_HO119, fun _ => (by (with_reducible repeat (first | apply Kd.R_alloc | apply Kd.R_drewN | apply Kd.R_drew)); exact HO122.out), fun h0_ => absurd ((hoff 13 (by kernel_rfl)).symm.trans h0_) (by decide), fun h0_ => absurd ((hoff 15 (by kernel_rfl)).symm.trans h0_) (by decide), fun h0_ => absurd ((hoff 16 (by kernel_rfl)).symm.trans h0_) (by decide)⟩
      refine steps_cons ?_ ?_
      · rintro b a w' ⟨v118, v121, v124, m15_, m16_, ha, Q_BK104, Q_HB, Q_HO119, Q_HO122, Q_HO125, Q_X15_, Q_X16_⟩ hb_ hon hoff
        refine ⟨_, rfl, fun K hK => ?_⟩
        have e17 : a.tmps[17]? = some (v118) := by rw [ha]; exact putSel_on (e := (0, 17, v118)) 0 rfl rfl (hon 0 (by kernel_rfl)) rfl
        have e29 : a.tmps[29]? = some (v121) := by rw [ha]; exact putSel_on (e := (12, 29, v121)) 7 rfl rfl (hon 12 (by kernel_rfl)) rfl
        replace ha := Aside0.mk ha
        have BK104 := Aside0.mk Q_BK104
        have HB := Aside0.mk Q_HB
        have HO119 := Aside0.mk (Q_HO119 (hon 0 (by kernel_rfl)))
        have HO122 := Aside0.mk (Q_HO122 (hon 12 (by kernel_rfl)))
        obtain ⟨Ao27, co27, eo27⟩ := Kd.R_slice HO119.out
        (first | subst eo27 | (injection eo27 with f1_ f2_ f3_; have f4_ := f1_.symm; have f5_ := f3_.symm; clear f1_ f2_ f3_; subst f4_; subst f5_))
        obtain ⟨Ao28, co28, eo28⟩ := Kd.R_slice HO122.out
        (first | subst eo28 | (injection eo28 with f1_ f2_ f3_; have f4_ := f1_.symm; have f5_ := f3_.symm; clear f1_ f2_ f3_; subst f4_; subst f5_))
        refine goes_ Try.func28 (by kernel_rfl) rfl #[.slice Ao27 t117.length co27, .slice Ao28 y120.length co28] (by rfl) rfl rfl (by first | (simp only [List.map_toArray, List.map_cons, List.map_nil, Act.eval, Array.getD_eq_getD_getElem?, Option.getD_some, e17, e29]; done) | (simp only [List.map_toArray, List.map_cons, List.map_nil, Act.eval, Array.getD_eq_getD_getElem?, Option.getD_some, e17, e29]; rfl)) ?_
        with_reducible refine (wire_Pack.calls k _ _ t117 _ _ y120 t123 _ ?side1 ?side2 ?side3 ?side4 A19.out).mono ?_
        (case side1 => repeat (first | exact (Kd.R_reads' HO119.out).2.2 | (with_reducible refine Kd.C_alloc ?_ _) | (with_reducible refine Kd.C_drewN ?_ _) | (with_reducible refine Kd.C_drew ?_)))
        (case side2 => exact (Kd.R_reads' HO119.out).2.1)
        (case side3 => repeat (first | exact (Kd.R_reads' HO122.out).2.2 | (with_reducible refine Kd.C_alloc ?_ _) | (with_reducible refine Kd.C_drewN ?_ _) | (with_reducible refine Kd.C_drew ?_)))
        (case side4 => exact (Kd.R_reads' HO122.out).2.1)
        rintro e w29 ⟨v124, rfl, ho0, hb⟩
        refine ⟨_, rfl, ?_⟩
        have n0_ := Aside0.mk (Kd.R_below (by (with_reducible repeat (first | apply Kd.R_alloc | apply Kd.R_drewN | apply Kd.R_drew)); exact HO119.out) hb)
        have n1_ := Aside0.mk (Kd.R_below (by (with_reducible repeat (first | apply Kd.R_alloc | apply Kd.R_drewN | apply Kd.R_drew)); exact HO122.out) hb)
        have n2_ := Aside0.mk (Kd.R_lower ho0 (below_size (by repeat (first | (with_reducible first | exact HB.out | apply below_alloc | apply pw_below_drewN | apply below_drew1 | refine below_set ?_ GE104.out) | exact HB.out))))
        have n3_ := Aside0.mk (blk_below (g := gb104) (o := .cells #[.int .u16 a0_0, .int .u16 a0_1, .int .u64 a0_2, .int .u64 a0_3, .int .u32 a0_4, .slice A0_5 l0_5.length c0_5] 28 (0, 0)) (by (with_reducible repeat (first | refine blk_drewN ?_ _ | refine blk_drew ?_ | refine blk_alloc ?_ _)); exact BK104.out) hb)
        have n4_ := Aside0.mk (below_step (by repeat (first | (with_reducible first | exact HB.out | apply below_alloc | apply pw_below_drewN | apply below_drew1 | refine below_set ?_ GE104.out) | exact HB.out)) hb)
        clear HO119
        clear HO122
        clear BK104
        clear HB
        have HO119 := n0_
        have HO122 := n1_
        have HO125 := n2_
        have BK104 := n3_
        have HB := n4_
        clear n0_ n1_ n2_ n3_ n4_
        (try clear hb)
        (try clear hb2)
        (try clear hk)
        (try clear hi)
        (try clear ho0)
        refine hK.out _ _ ⟨.slice Ao27 t117.length co27, .slice Ao28 y120.length co28, v124, m15_, m16_, (by rw [ha.out]; exact putSel_upk 8 hb_ rfl rfl rfl), (by (with_reducible repeat (first | refine blk_drewN ?_ _ | refine blk_drew ?_ | refine blk_alloc ?_ _)); exact BK104.out), (by repeat (first | (with_reducible first | exact HB.out | apply below_alloc | apply pw_below_drewN | apply below_drew1 | refine below_set ?_ GE104.out) | exact HB.out)), fun _ => (by (with_reducible repeat (first | apply Kd.R_alloc | apply Kd.R_drewN | apply Kd.R_drew)); exact HO119.out), fun _ => (by (with_reducible repeat (first | apply Kd.R_alloc | apply Kd.R_drewN | apply Kd.R_drew)); exact HO122.out), fun _ => (by (with_reducible repeat (first | apply Kd.R_alloc | apply Kd.R_drewN | apply Kd.R_drew)); exact HO125.out), fun h0_ => absurd ((hoff 15 (by kernel_rfl)).symm.trans h0_) (by decide), fun h0_ => absurd ((hoff 16 (by kernel_rfl)).symm.trans h0_) (by decide)⟩
      refine steps_cons ?_ ?_
      · rintro b a w' ⟨v118, v121, v124, m15_, m16_, ha, Q_BK104, Q_HB, Q_HO119, Q_HO122, Q_HO125, Q_X15_, Q_X16_⟩ hb_ hon hoff
        refine ⟨_, rfl, fun K hK => ?_⟩
        have e30 : a.tmps[30]? = some (v124) := by rw [ha]; exact putSel_on (e := (13, 30, v124)) 8 rfl rfl (hon 13 (by kernel_rfl)) rfl
        have e31 : a.tmps[31]? = some (.slice none 0 0) := by rw [ha]; exact (putSel_off rfl).trans rfl
        replace ha := Aside0.mk ha
        have BK104 := Aside0.mk Q_BK104
        have HB := Aside0.mk Q_HB
        have HO119 := Aside0.mk (Q_HO119 (hon 0 (by kernel_rfl)))
        have HO122 := Aside0.mk (Q_HO122 (hon 12 (by kernel_rfl)))
        have HO125 := Aside0.mk (Q_HO125 (hon 13 (by kernel_rfl)))
        obtain ⟨Ao15_0, co15_0, eo_⟩ := Kd.R_slice HO125.out
        subst eo_
        refine value_ (w1 := w') (v := .slice Ao15_0 t123.length co15_0) (by rfl) rfl ?_ ?_
        · have hroom_ := (Kd.R_reads' HO125.out).2.1
          rcases Ao15_0 with _ | ao_ <;> (go_simp <;> (try rfl))
        refine hK.out _ _ ⟨v118, v121, .slice Ao15_0 t123.length co15_0, (.slice Ao15_0 t123.length co15_0), m16_, (by rw [ha.out]; exact putSel_upk 9 hb_ rfl rfl rfl), Q_BK104, Q_HB, Q_HO119, Q_HO122, Q_HO125, fun _ => rfl, fun h0_ => absurd ((hoff 16 (by kernel_rfl)).symm.trans h0_) (by decide)⟩
      refine steps_cons ?_ ?_
      · rintro b a w' ⟨v118, v121, v124, m15_, m16_, ha, Q_BK104, Q_HB, Q_HO119, Q_HO122, Q_HO125, Q_X15_, Q_X16_⟩ hb_ hon hoff
        refine ⟨_, rfl, fun K hK => ?_⟩
        have e32 : a.tmps[32]? = some (m15_) := by rw [ha]; exact putSel_on (e := (15, 32, m15_)) 9 rfl rfl (hon 15 (by kernel_rfl)) rfl
        rw [Q_X15_ (hon 15 (by kernel_rfl))] at e32
        replace ha := Aside0.mk ha
        have BK104 := Aside0.mk Q_BK104
        have HB := Aside0.mk Q_HB
        have HO119 := Aside0.mk (Q_HO119 (hon 0 (by kernel_rfl)))
        have HO122 := Aside0.mk (Q_HO122 (hon 12 (by kernel_rfl)))
        have HO125 := Aside0.mk (Q_HO125 (hon 13 (by kernel_rfl)))
        refine value_ (w1 := w') (v := v124) (by rfl) rfl ?_ ?_
        · go_simp
          (try simp only [i64_w])
          try rfl
        refine hK.out _ _ ⟨v118, v121, v124, m15_, (v124), (by rw [ha.out]; exact putSel_upk 10 hb_ rfl rfl rfl), Q_BK104, Q_HB, Q_HO119, Q_HO122, Q_HO125, Q_X15_, fun _ => rfl⟩
      exact steps_nil
    rintro b a w29 hall ⟨v118, v121, v124, m15_, m16_, ha, Q_BK104, Q_HB, Q_HO119, Q_HO122, Q_HO125, Q_X15_, Q_X16_⟩
    clear BK104 HB
    have hb0_ := hall 0 (by kernel_rfl)
    have hb2_ := hall 2 (by kernel_rfl)
    have hb3_ := hall 3 (by kernel_rfl)
    have hb5_ := hall 5 (by kernel_rfl)
    have hb6_ := hall 6 (by kernel_rfl)
    have hb8_ := hall 8 (by kernel_rfl)
    have hb10_ := hall 10 (by kernel_rfl)
    have hb12_ := hall 12 (by kernel_rfl)
    have hb13_ := hall 13 (by kernel_rfl)
    have hb15_ := hall 15 (by kernel_rfl)
    have hb16_ := hall 16 (by kernel_rfl)
    subst ha
    obtain rfl := Q_X15_ hb15_
    obtain rfl := Q_X16_ hb16_
    simp only [putSel, hb0_, hb2_, hb3_, hb5_, hb6_, hb8_, hb10_, hb12_, hb13_, hb15_, hb16_, if_true, Act.put, List.setIfInBounds_toArray, List.set_cons_zero, List.set_cons_succ]
    have BK104 := Aside0.mk Q_BK104
    clear Q_BK104
    have HB := Aside0.mk Q_HB
    clear Q_HB
    have HO119 := Aside0.mk (Q_HO119 hb0_)
    clear Q_HO119
    have HO122 := Aside0.mk (Q_HO122 hb12_)
    clear Q_HO122
    have HO125 := Aside0.mk (Q_HO125 hb13_)
    clear Q_HO125
    clear hall hb0_ hb2_ hb3_ hb5_ hb6_ hb8_ hb10_ hb12_ hb13_ hb15_ hb16_
    try go_wp2
    go_ret
    exact ⟨_, by first | rfl | (simp [errW_none, errW_some] <;> rfl) | (simp [*, errW_none, errW_some] <;> rfl), by (with_reducible repeat (first | apply Kd.R_alloc | apply Kd.R_drewN | apply Kd.R_drew)); exact HO125.out, by repeat (first | (with_reducible first | exact HB.out | apply below_alloc | apply pw_below_drewN | apply below_drew1 | refine below_set ?_ GE104.out) | exact HB.out)⟩

/-! ### req_Reply: function 18 -/
def req_Reply.f (k : Nat) (a0 : Int) (a1 : Int) (l2 : List Int) : Option (List Int) := (wire_Pack.f k (([4, 4, 8] : List Int)) (([1732535960, IntKind.u64.wrap (a0), a1] : List Int))).bind fun t132 => (if t132.length + l2.length < 140737488355328 then (some (t132 ++ l2)) else (none))
theorem req_Reply.mono : ∀ a0 a1 a2 k, LeO (req_Reply.f k a0 a1 a2) (req_Reply.f (k + 1) a0 a1 a2) := by
  intro a0 a1 a2 k
  unfold req_Reply.f
  repeat' first
      | (with_reducible exact wire_Pack.mono _ _ _)
      | (with_reducible exact LeO.refl _)
      | (with_reducible exact LeO.none _)
      | (with_reducible refine LeO.ite ?_ ?_)
      | (with_reducible refine LeO.bind ?_ (fun _ => ?_))
      | exact wire_Pack.mono _ _ _
      | exact LeO.none _
      | refine LeO.ite ?_ ?_
      | refine LeO.bind ?_ (fun _ => ?_)
set_option maxHeartbeats 8000000 in
set_option maxRecDepth 100000 in
theorem req_Reply.calls (k : Nat) (a0 : Int) (a1 : Int) (A2 : Option Addr) (c2 : Nat) (l2 : List Int) (r : List Int) (w : World) (hr2 : Kd.C (Kd.int .u8) w A2 l2.length l2) (hc2 : l2.length ≤ c2) (h : req_Reply.f k a0 a1 l2 = some r) :
    Calls Try.prog 18 #[.int .u32 a0, .int .u64 a1, .slice A2 l2.length c2] w fun e w' => ∃ v0_ : Value, e = .returned (v0_) ∧ Kd.R (Kd.int .u8) 5 w' w.heap.size (fun _ => True) v0_ r ∧ Below w.heap.size w w' := by
  have HR2 := Aside0.mk hr2
  have HC2 := Aside0.mk hc2
  clear hr2 hc2
  have HB := Aside0.mk (Below.refl w.heap.size w)
  have H : ((wire_Pack.f k (([4, 4, 8] : List Int)) (([1732535960, IntKind.u64.wrap (a0), a1] : List Int))).bind fun t132 => (if t132.length + l2.length < 140737488355328 then (some (t132 ++ l2)) else (none))) = some r := h
  clear h
  obtain ⟨y126, hy126⟩ : ∃ y_ : List Int, y_ = (([4, 4, 8] : List Int)) := ⟨_, rfl⟩
  replace H : ((wire_Pack.f k y126 (([1732535960, IntKind.u64.wrap (a0), a1] : List Int))).bind fun t132 => (if t132.length + l2.length < 140737488355328 then (some (t132 ++ l2)) else (none))) = some r := by first | (rw [hy126]; with_reducible exact H) | (have H2_ := (Option.bind_some _ _).symm.trans H; rw [hy126]; with_reducible exact H2_) | (have H2_ := (Option.bind_some _ _).symm.trans H; with_reducible exact H2_) | with_reducible exact H | (rw [hy126]; exact H) | exact H
  have Ny126 := Aside0.mk hy126
  clear hy126
  obtain ⟨y129, hy129⟩ : ∃ y_ : List Int, y_ = (([1732535960, IntKind.u64.wrap (a0), a1] : List Int)) := ⟨_, rfl⟩
  replace H : ((wire_Pack.f k y126 y129).bind fun t132 => (if t132.length + l2.length < 140737488355328 then (some (t132 ++ l2)) else (none))) = some r := by first | (rw [hy129]; with_reducible exact H) | (have H2_ := (Option.bind_some _ _).symm.trans H; rw [hy129]; with_reducible exact H2_) | (have H2_ := (Option.bind_some _ _).symm.trans H; with_reducible exact H2_) | with_reducible exact H | (rw [hy129]; exact H) | exact H
  have Ny129 := Aside0.mk hy129
  clear hy129
  replace H := Option.bind_eq_some_iff.mp H
  obtain ⟨t132, A40, H⟩ := H
  replace H : (if t132.length + l2.length < 140737488355328 then (some (t132 ++ l2)) else (none)) = some r := H
  have A4 := Aside0.mk A40
  clear A40
  by_cases c5 : t132.length + l2.length < 140737488355328
  · rw [if_pos c5] at H
    have LMc5 := Aside0.mk c5
    clear c5
    obtain ⟨y135, hy135⟩ : ∃ y_ : List Int, y_ = (t132 ++ l2) := ⟨_, rfl⟩
    replace H : (some y135) = some r := by first | (rw [hy135]; with_reducible exact H) | (have H2_ := (Option.bind_some _ _).symm.trans H; rw [hy135]; with_reducible exact H2_) | (have H2_ := (Option.bind_some _ _).symm.trans H; with_reducible exact H2_) | with_reducible exact H | (rw [hy135]; exact H) | exact H
    have Ny135 := Aside0.mk hy135
    clear hy135
    obtain rfl := Option.some.inj H
    go_enter Try.func18, Try.ntmps18
    go_wp2_with (first | ((with_reducible refine gate_dst (N := 7) rfl ?_); refine Kd.R_lit (Kd.int .i64) _ 3 ?hg (N := 7) ?hd (xs := ([4, 4, 8] : List Int)) (inner := [.int .i64 4, .int .i64 4, .int .i64 8]) (ok := fun _ => True) (okp := fun _ => True) ?hr ?hp (fun _ hk => hk) trivial (Below.refl _ _) (Nat.le_refl _) (by simp) ?_; (case hd => rfl); (case hg => rfl); (case hr => first | (go_simp; done) | (go_simp; rfl)); (case hp => exact (Reps.one (show Kd.M (Kd.int .i64) _ _ _ 4 [.int .i64 4] from rfl) (Reps.one (show Kd.M (Kd.int .i64) _ _ _ 4 [.int .i64 4] from rfl) (Reps.one (show Kd.M (Kd.int .i64) _ _ _ 8 [.int .i64 8] from rfl) (Reps.none _ _))))); intro v127 w6 ho7 hb hg_ hnew_; clear hg_ hnew_; (first | rw [← Ny126.out] at ho7 | (simp only [Int.reduceToNat] at ho7; rw [← Ny126.out] at ho7)); have n0_ := Aside0.mk (Kd.R_lower ho7 (below_size (by repeat (first | (with_reducible first | exact HB.out | apply below_alloc | apply pw_below_drewN | apply below_drew1) | exact HB.out)))); have n1_ := Aside0.mk (below_step (by repeat (first | (with_reducible first | exact HB.out | apply below_alloc | apply pw_below_drewN | apply below_drew1) | exact HB.out)) hb); clear HB; have HO128 := n0_; have HB := n1_; clear n0_ n1_; clear hb ho7) | ((with_reducible refine gate_dst (N := 11) rfl ?_); refine Kd.R_lit (Kd.int .u64) _ 25 ?hg (N := 11) ?hd (xs := ([1732535960, IntKind.u64.wrap (a0), a1] : List Int)) (inner := [.int .u64 1732535960, .int .u64 (IntKind.u64.wrap (a0)), .int .u64 a1]) (ok := fun _ => True) (okp := fun _ => True) ?hr ?hp (fun _ hk => hk) trivial (Below.refl _ _) (Nat.le_refl _) (by simp) ?_; (case hd => rfl); (case hg => rfl); (case hr => first | (go_simp; done) | (go_simp; rfl)); (case hp => exact (Reps.one (show Kd.M (Kd.int .u64) _ _ _ 1732535960 [.int .u64 1732535960] from rfl) (Reps.one (show Kd.M (Kd.int .u64) _ _ _ (IntKind.u64.wrap (a0)) [.int .u64 (IntKind.u64.wrap (a0))] from rfl) (Reps.one (show Kd.M (Kd.int .u64) _ _ _ a1 [.int .u64 a1] from rfl) (Reps.none _ _))))); intro v130 w8 ho9 hb hg_ hnew_; clear hg_ hnew_; (first | rw [← Ny129.out] at ho9 | (simp only [Int.reduceToNat] at ho9; rw [← Ny129.out] at ho9)); have n0_ := Aside0.mk (Kd.R_below (by (with_reducible repeat (first | apply Kd.R_alloc | apply Kd.R_drewN | apply Kd.R_drew)); exact HO128.out) hb); have n1_ := Aside0.mk (Kd.R_lower ho9 (below_size (by repeat (first | (with_reducible first | exact HB.out | apply below_alloc | apply pw_below_drewN | apply below_drew1) | exact HB.out)))); have n2_ := Aside0.mk (below_step (by repeat (first | (with_reducible first | exact HB.out | apply below_alloc | apply pw_below_drewN | apply below_drew1) | exact HB.out)) hb); clear HO128; clear HB; have HO128 := n0_; have HO131 := n1_; have HB := n2_; clear n0_ n1_ n2_; clear hb ho9; obtain ⟨Ao10, co10, eo10⟩ := Kd.R_slice HO128.out; subst eo10; obtain ⟨Ao11, co11, eo11⟩ := Kd.R_slice HO131.out; subst eo11) | ((with_reducible refine gate_callee (f := 28) rfl ?_); refine goesL_ (some 12) rfl rfl Try.func28 (by kernel_rfl) rfl #[.slice Ao10 y126.length co10, .slice Ao11 y129.length co11] rfl (by (try simp only [List.map_toArray, List.map_cons, List.map_nil]); first | done | rfl | (simp only [List.length_drop, List.length_take]; rfl) | (simp only [List.length_drop, List.length_take]; (repeat rw [Nat.min_eq_left (by simp only [eq_iff_iff, iff_true] at *; omega)]); rfl)) ?_; (with_reducible refine (wire_Pack.calls k _ _ y126 _ _ y129 t132 _ ?side1 ?side2 ?side3 ?side4 A4.out).mono ?_); (case side1 => repeat (first | exact (Kd.R_reads' HO128.out).2.2 | (with_reducible refine Kd.C_alloc ?_ _) | (with_reducible refine Kd.C_drewN ?_ _) | (with_reducible refine Kd.C_drew ?_))); (case side2 => exact (Kd.R_reads' HO128.out).2.1); (case side3 => repeat (first | exact (Kd.R_reads' HO131.out).2.2 | (with_reducible refine Kd.C_alloc ?_ _) | (with_reducible refine Kd.C_drewN ?_ _) | (with_reducible refine Kd.C_drew ?_))); (case side4 => exact (Kd.R_reads' HO131.out).2.1); rintro e w12 ⟨v133, rfl, ho0, hb⟩; refine ⟨_, rfl, ?_⟩; have n0_ := Aside0.mk (Kd.R_below (by (with_reducible repeat (first | apply Kd.R_alloc | apply Kd.R_drewN | apply Kd.R_drew)); exact HO128.out) hb); have n1_ := Aside0.mk (Kd.R_below (by (with_reducible repeat (first | apply Kd.R_alloc | apply Kd.R_drewN | apply Kd.R_drew)); exact HO131.out) hb); have n2_ := Aside0.mk (Kd.R_lower ho0 (below_size (by repeat (first | (with_reducible first | exact HB.out | apply below_alloc | apply pw_below_drewN | apply below_drew1) | exact HB.out)))); have n3_ := Aside0.mk (below_step (by repeat (first | (with_reducible first | exact HB.out | apply below_alloc | apply pw_below_drewN | apply below_drew1) | exact HB.out)) hb); clear HO128; clear HO131; clear HB; have HO128 := n0_; have HO131 := n1_; have HO134 := n2_; have HB := n3_; clear n0_ n1_ n2_ n3_; (try clear hb); (try clear hb2); (try clear hk); (try clear hi); (try clear ho0)) | ((with_reducible refine gate_builtin (b := .append) (xs := #[.tmp 12, .tmp 13]) rfl ?_); at_builtin; refine Kd.R_append_rows (Kd.int .u8) (w0 := w) w.heap.size rfl (.tmp 12) (.tmp 13) 22 5 (.int .u8 0) 1 rfl Try.underlying22 info5 rfl (by decide) (by omega) v133 t132 l2 _ _ _ (fun _ => True) (fun _ => False) rfl rfl ?aO ?aR (fun _ _ h => h) (fun _ h => h.elim) ?aF ?aB ?aS ?aL ?_; (case aR => repeat (first | exact (Kd.C_below HR2.out HB.out) | (with_reducible refine Kd.C_alloc ?_ _) | (with_reducible refine Kd.C_drewN ?_ _) | (with_reducible refine Kd.C_drew ?_))); (case aB => exact (by repeat (first | (with_reducible first | exact HB.out | apply below_alloc | apply pw_below_drewN | apply below_drew1) | exact HB.out))); (case aF => exact (fun _ _ => trivial)); (case aO => exact (by (with_reducible repeat (first | apply Kd.R_alloc | apply Kd.R_drewN | apply Kd.R_drew)); exact HO134.out)); (case aS => exact (below_size (by repeat (first | (with_reducible first | exact HB.out | apply below_alloc | apply pw_below_drewN | apply below_drew1) | exact HB.out)))); (case aL => have := LMc5.out; omega); intro v136 w13 ho hb hg hat; rw [← Ny135.out] at ho; have n0_ := Aside0.mk (Kd.R_over' (by (with_reducible repeat (first | apply Kd.R_alloc | apply Kd.R_drewN | apply Kd.R_drew)); exact HO128.out) (Kd.R_typed (by (with_reducible repeat (first | apply Kd.R_alloc | apply Kd.R_drewN | apply Kd.R_drew)); exact HO134.out)) (by decide) hg); have n1_ := Aside0.mk (Kd.R_over' (by (with_reducible repeat (first | apply Kd.R_alloc | apply Kd.R_drewN | apply Kd.R_drew)); exact HO131.out) (Kd.R_typed (by (with_reducible repeat (first | apply Kd.R_alloc | apply Kd.R_drewN | apply Kd.R_drew)); exact HO134.out)) (by decide) hg); have n2_ := Aside0.mk (hb); have n3_ := Aside0.mk (ho); clear HO128; clear HO131; clear HB; clear HO134; have HO128 := n0_; have HO131 := n1_; have HB := n2_; have HO137 := n3_; clear n0_ n1_ n2_ n3_; clear ho hb hg hat))
    go_ret
    exact ⟨_, by first | rfl | (simp [errW_none, errW_some] <;> rfl) | (simp [*, errW_none, errW_some] <;> rfl), by (with_reducible repeat (first | apply Kd.R_alloc | apply Kd.R_drewN | apply Kd.R_drew)); exact HO137.out, by repeat (first | (with_reducible first | exact HB.out | apply below_alloc | apply pw_below_drewN | apply below_drew1) | exact HB.out)⟩
  · rw [if_neg c5] at H
    exact absurd H (by simp)

end Go.Proofs.Ytemhlinodccokaa.PBase
