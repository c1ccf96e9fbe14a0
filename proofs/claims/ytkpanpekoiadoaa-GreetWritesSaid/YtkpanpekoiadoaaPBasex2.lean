-- PRINTED by print.py (a twelfth state) out of the translation. Not trusted: Lean checks it.
import Derived.Test.YtkpanpekoiadoaaPBasex0
namespace Go.Proofs.Ytkpanpekoiadoaa.PBase
open Go.RowKit Go.Proofs.YtkpanpekoiadoaaW.PrintWords Go.Proofs.YtkpanpekoiadoaaW.PrintLast Go.Proofs.YtkpanpekoiadoaaW.PrintMore
attribute [local go_sem] max2_int min2_int max_two min_two max_three min_three max_four min_four   -- for this text's walks alone
set_option linter.unusedVariables false
set_option linter.unusedSimpArgs false

/-! ### greet_Asked: function 16 -/
mutual
def greet_Asked.j0 : Nat → List Int → List Int → Bool → Option (ByteArray × List Int × Int)
  | 0, _, _, _ => none
  | k + 1, x5, x6, x34 => if x34 = true then (some ((⟨#[]⟩ : ByteArray), ([] : List Int), 74)) else (if 0 < (x5.length : Int) then (if 0 ≤ (rd x5 0) then (if (rd x5 0) ≤ (x6.length : Int) then ((some (x6.take ((rd x5 0) : Int).toNat : List Int)).bind fun y148 => ((wire_Take.f (x6.drop ((rd x5 0) : Int).toNat) (([2] : List Int))).bind fun bt160 => (if bt160.2.2 = true then (if 0 < (bt160.1.length : Int) then (greet_Asked.j1 k bt160.2.1 (strOfNums y148) ((bt160.2.1.length : Int) != (wrap64 (2 * (wrap64 (rd bt160.1 0)))))) else (none)) else (greet_Asked.j1 k bt160.2.1 (strOfNums y148) true)))) else (none)) else (none)) else (none))
def greet_Asked.j1 : Nat → List Int → ByteArray → Bool → Option (ByteArray × List Int × Int)
  | 0, _, _, _ => none
  | k + 1, x6, x8, x63 => if x63 = true then (some ((⟨#[]⟩ : ByteArray), ([] : List Int), 74)) else (greet_Asked.l0 k x6 x8 ([] : List Int) 1)
def greet_Asked.l0 : Nat → List Int → ByteArray → List Int → Int → Option (ByteArray × List Int × Int)
  | 0, _, _, _, _ => none
  | k + 1, x6, x8, x9, x10 => if x10 < (x6.length : Int) then (if 0 ≤ (wrap64 (x10 - 1)) then (if (wrap64 (x10 - 1)) < (x6.length : Int) then (if 0 ≤ x10 then (if x9.length < 70368744177664 then (greet_Asked.l0 k x6 x8 (x9 ++ [Go.bits .or .u16 (IntKind.u16.wrap ((IntKind.u16.wrap (rd x6 (wrap64 (x10 - 1)))) * 256)) (IntKind.u16.wrap (rd x6 x10))]) (wrap64 (x10 + 2))) else (none)) else (none)) else (none)) else (none)) else (some (x8, x9, 0))
end
def greet_Asked.f (k : Nat) (l0 : List Int) : Option (ByteArray × List Int × Int) := (wire_Take.f l0 (([4] : List Int))).bind fun bt138 => (if bt138.2.2 = true then (if 0 < (bt138.1.length : Int) then (if (rd bt138.1 0) > 255 then (greet_Asked.j0 k bt138.1 bt138.2.1 true) else (greet_Asked.j0 k bt138.1 bt138.2.1 (decide ((wrap64 (rd bt138.1 0)) > (bt138.2.1.length : Int))))) else (none)) else (greet_Asked.j0 k bt138.1 bt138.2.1 true))
theorem greet_Asked.mono_l : ∀ k, (∀ y0 y1 y2, LeO (greet_Asked.j0 k y0 y1 y2) (greet_Asked.j0 (k + 1) y0 y1 y2)) ∧ (∀ y0 y1 y2, LeO (greet_Asked.j1 k y0 y1 y2) (greet_Asked.j1 (k + 1) y0 y1 y2)) ∧ (∀ y0 y1 y2 y3, LeO (greet_Asked.l0 k y0 y1 y2 y3) (greet_Asked.l0 (k + 1) y0 y1 y2 y3))
  | 0 => ⟨fun _ _ _ r h => by simp [greet_Asked.j0] at h, fun _ _ _ r h => by simp [greet_Asked.j1] at h, fun _ _ _ _ r h => by simp [greet_Asked.l0] at h⟩
  | k + 1 => by
    obtain ⟨ih0, ih1, ih2⟩ := greet_Asked.mono_l k
    refine ⟨?_, ?_, ?_⟩
    · intro y0 y1 y2
      unfold greet_Asked.j0
      repeat' first
      | (with_reducible exact ih0 _ _ _)
      | (with_reducible exact ih1 _ _ _)
      | (with_reducible exact ih2 _ _ _ _)
      | (with_reducible exact LeO.refl _)
      | (with_reducible exact LeO.none _)
      | (with_reducible refine LeO.ite ?_ ?_)
      | (with_reducible refine LeO.bind ?_ (fun _ => ?_))
      | exact ih0 _ _ _
      | exact ih1 _ _ _
      | exact ih2 _ _ _ _
      | exact LeO.none _
      | refine LeO.ite ?_ ?_
      | refine LeO.bind ?_ (fun _ => ?_)
    · intro y0 y1 y2
      unfold greet_Asked.j1
      repeat' first
      | (with_reducible exact ih0 _ _ _)
      | (with_reducible exact ih1 _ _ _)
      | (with_reducible exact ih2 _ _ _ _)
      | (with_reducible exact LeO.refl _)
      | (with_reducible exact LeO.none _)
      | (with_reducible refine LeO.ite ?_ ?_)
      | (with_reducible refine LeO.bind ?_ (fun _ => ?_))
      | exact ih0 _ _ _
      | exact ih1 _ _ _
      | exact ih2 _ _ _ _
      | exact LeO.none _
      | refine LeO.ite ?_ ?_
      | refine LeO.bind ?_ (fun _ => ?_)
    · intro y0 y1 y2 y3
      unfold greet_Asked.l0
      repeat' first
      | (with_reducible exact ih0 _ _ _)
      | (with_reducible exact ih1 _ _ _)
      | (with_reducible exact ih2 _ _ _ _)
      | (with_reducible exact LeO.refl _)
      | (with_reducible exact LeO.none _)
      | (with_reducible refine LeO.ite ?_ ?_)
      | (with_reducible refine LeO.bind ?_ (fun _ => ?_))
      | exact ih0 _ _ _
      | exact ih1 _ _ _
      | exact ih2 _ _ _ _
      | exact LeO.none _
      | refine LeO.ite ?_ ?_
      | refine LeO.bind ?_ (fun _ => ?_)
theorem greet_Asked.mono : ∀ a0 k, LeO (greet_Asked.f k a0) (greet_Asked.f (k + 1) a0) := by
  intro a0 k
  obtain ⟨ih0, ih1, ih2⟩ := greet_Asked.mono_l k
  unfold greet_Asked.f
  repeat' first
      | (with_reducible exact ih0 _ _ _)
      | (with_reducible exact ih1 _ _ _)
      | (with_reducible exact ih2 _ _ _ _)
      | (with_reducible exact LeO.refl _)
      | (with_reducible exact LeO.none _)
      | (with_reducible refine LeO.ite ?_ ?_)
      | (with_reducible refine LeO.bind ?_ (fun _ => ?_))
      | exact ih0 _ _ _
      | exact ih1 _ _ _
      | exact ih2 _ _ _ _
      | exact LeO.none _
      | refine LeO.ite ?_ ?_
      | refine LeO.bind ?_ (fun _ => ?_)
def greet_Asked.T12 : Bool × List (List Nat × List Nat) := (true, [([], []), ([], []), ([], []), ([2], [2]), ([1, 3], [1, 3]), ([4], [4]), ([5], [5]), ([6], [6]), ([], []), ([], []), ([8, 9], [8, 9]), ([10], [10]), ([11], [11]), ([7, 12], [7, 12]), ([13], [13]), ([0, 14], [0, 14]), ([15, 15, 0, 1, 2, 3, 4, 5, 6, 7, 8, 9, 10, 11, 12, 13, 14, 15], [0, 15])])
def greet_Asked.B12 : List Nat := [0, 0, 0, 4, 14, 30, 62, 126, 0, 0, 768, 1792, 3840, 8190, 16382, 32767, 65535]
theorem greet_Asked.tab12 : rtab .any (opsOf Try.f16 12) = greet_Asked.T12 := by kernel_rfl
theorem greet_Asked.bits12 : waitsOk greet_Asked.T12.2 greet_Asked.B12 = true := by kernel_rfl
set_option maxHeartbeats 8000000 in
set_option maxRecDepth 100000 in
theorem greet_Asked.calls (k : Nat) (A0 : Option Addr) (c0 : Nat) (l0 : List Int) (r1 : ByteArray) (r2 : List Int) (r3 : Int) (w : World) (hr0 : Kd.C (Kd.int .u8) w A0 l0.length l0) (hc0 : l0.length ≤ c0) (h : greet_Asked.f k l0 = some (r1, r2, r3)) :
    Calls Try.prog 16 #[.slice A0 l0.length c0] w fun e w' => ∃ v1_ : Value, e = .returned (.tuple #[.string r1, v1_, .int .u16 r3]) ∧ Kd.R (Kd.int .u16) 24 w' w.heap.size (fun _ => True) v1_ r2 ∧ Below w.heap.size w w' := by
  have HR0 := Aside0.mk hr0
  have HC0 := Aside0.mk hc0
  clear hr0 hc0
  have HB := Aside0.mk (Below.refl w.heap.size w)
  have H : ((wire_Take.f l0 (([4] : List Int))).bind fun bt138 => (if bt138.2.2 = true then (if 0 < (bt138.1.length : Int) then (if (rd bt138.1 0) > 255 then (greet_Asked.j0 k bt138.1 bt138.2.1 true) else (greet_Asked.j0 k bt138.1 bt138.2.1 (decide ((wrap64 (rd bt138.1 0)) > (bt138.2.1.length : Int))))) else (none)) else (greet_Asked.j0 k bt138.1 bt138.2.1 true))) = some (r1, r2, r3) := h
  clear h
  obtain ⟨y135, hy135⟩ : ∃ y_ : List Int, y_ = (([4] : List Int)) := ⟨_, rfl⟩
  replace H : ((wire_Take.f l0 y135).bind fun bt138 => (if bt138.2.2 = true then (if 0 < (bt138.1.length : Int) then (if (rd bt138.1 0) > 255 then (greet_Asked.j0 k bt138.1 bt138.2.1 true) else (greet_Asked.j0 k bt138.1 bt138.2.1 (decide ((wrap64 (rd bt138.1 0)) > (bt138.2.1.length : Int))))) else (none)) else (greet_Asked.j0 k bt138.1 bt138.2.1 true))) = some (r1, r2, r3) := by first | (rw [hy135]; with_reducible exact H) | (have H2_ := (Option.bind_some _ _).symm.trans H; rw [hy135]; with_reducible exact H2_) | (have H2_ := (Option.bind_some _ _).symm.trans H; with_reducible exact H2_) | with_reducible exact H | (rw [hy135]; exact H) | exact H
  have Ny135 := Aside0.mk hy135
  clear hy135
  replace H := Option.bind_eq_some_iff.mp H
  obtain ⟨⟨t138, t139, t140⟩, A20, H⟩ := H
  replace H : (if t140 = true then (if 0 < (t138.length : Int) then (if (rd t138 0) > 255 then (greet_Asked.j0 k t138 t139 true) else (greet_Asked.j0 k t138 t139 (decide ((wrap64 (rd t138 0)) > (t139.length : Int))))) else (none)) else (greet_Asked.j0 k t138 t139 true)) = some (r1, r2, r3) := H
  have A2 := Aside0.mk A20
  clear A20
  have HC3 := Aside0.mk H
  clear H
  go_enter Try.func16, Try.ntmps16
  go_upto_region 2 with (first | ((with_reducible refine gate_dst (N := 13) rfl ?_); (try (refine gate_guard (by rfl) ?_; dsimp only)); refine Kd.R_lit (Kd.int .i64) _ 3 ?hg (N := 13) ?hd (xs := ([4] : List Int)) (inner := [.int .i64 4]) (ok := fun _ => True) (okp := fun _ => True) ?hr ?hp (fun _ hk => hk) trivial (Below.refl _ _) (Nat.le_refl _) (by simp) ?_; (case hd => rfl); (case hg => rfl); (case hr => first | (go_simp; done) | (go_simp; rfl)); (case hp => exact (Reps.one (show Kd.M (Kd.int .i64) _ _ _ 4 [.int .i64 4] from rfl) (Reps.none _ _))); intro v136 w4 ho5 hb hg_ hnew_; clear hg_ hnew_; (first | rw [← Ny135.out] at ho5 | (simp only [Int.reduceToNat] at ho5; rw [← Ny135.out] at ho5)); have n0_ := Aside0.mk (Kd.R_lower ho5 (below_size (by repeat (first | (with_reducible first | exact HB.out | apply below_alloc | apply pw_below_drewN | apply below_drew1) | exact HB.out)))); have n1_ := Aside0.mk (below_step (by repeat (first | (with_reducible first | exact HB.out | apply below_alloc | apply pw_below_drewN | apply below_drew1) | exact HB.out)) hb); clear HB; have HO137 := n0_; have HB := n1_; clear n0_ n1_; clear hb ho5; obtain ⟨Ao6, co6, eo6⟩ := Kd.R_slice HO137.out; subst eo6) | ((with_reducible refine gate_callee (f := 28) rfl ?_); refine goesL_ (some 14) rfl rfl Try.func28 (by kernel_rfl) rfl #[.slice A0 l0.length c0, .slice Ao6 y135.length co6] rfl (by (try simp only [List.map_toArray, List.map_cons, List.map_nil]); first | done | rfl | (simp only [List.length_drop, List.length_take]; rfl) | (simp only [List.length_drop, List.length_take]; (repeat rw [Nat.min_eq_left (by simp only [eq_iff_iff, iff_true] at *; omega)]); rfl)) ?_; (with_reducible refine (wire_Take.calls _ _ l0 _ _ y135 t138 t139 t140 _ ?side1 ?side2 ?side3 ?side4 A2.out).mono ?_); (case side1 => repeat (first | exact (Kd.C_below HR0.out HB.out) | (with_reducible refine Kd.C_alloc ?_ _) | (with_reducible refine Kd.C_drewN ?_ _) | (with_reducible refine Kd.C_drew ?_))); (case side2 => exact HC0.out); (case side3 => repeat (first | exact (Kd.R_reads' HO137.out).2.2 | (with_reducible refine Kd.C_alloc ?_ _) | (with_reducible refine Kd.C_drewN ?_ _) | (with_reducible refine Kd.C_drew ?_))); (case side4 => exact (Kd.R_reads' HO137.out).2.1); rintro e w7 ⟨v141, v143, rfl, ho0, ho1, hb⟩; refine ⟨_, rfl, ?_⟩; have n0_ := Aside0.mk (Kd.R_below (by (with_reducible repeat (first | apply Kd.R_alloc | apply Kd.R_drewN | apply Kd.R_drew)); exact HO137.out) hb); have n1_ := Aside0.mk (Kd.R_lower ho0 (below_size (by repeat (first | (with_reducible first | exact HB.out | apply below_alloc | apply pw_below_drewN | apply below_drew1) | exact HB.out)))); have n2_ := Aside0.mk (Kd.R_lower ho1 (below_size (by repeat (first | (with_reducible first | exact HB.out | apply below_alloc | apply pw_below_drewN | apply below_drew1) | exact HB.out)))); have n3_ := Aside0.mk (below_step (by repeat (first | (with_reducible first | exact HB.out | apply below_alloc | apply pw_below_drewN | apply below_drew1) | exact HB.out)) hb); clear HO137; clear HB; have HO137 := n0_; have HO142 := n1_; have HO144 := n2_; have HB := n3_; clear n0_ n1_ n2_ n3_; (try clear hb); (try clear hb2); (try clear hk); (try clear hi); (try clear ho0); (try clear ho1)))
  (try simp only [Act.put, List.setIfInBounds_toArray, List.set_cons_zero, List.set_cons_succ])
  go_cut [34] (fun v34 wc => ∃ (kq : Nat) (x34_2 : Bool), v34 = .bool x34_2 ∧ Aside0 (greet_Asked.j0 kq t138 t139 x34_2 = some (r1, r2, r3)) ∧ Aside0 (kq ≤ k) ∧ Aside0 (Kd.R (Kd.int .u64) 49 wc w.heap.size (fun _ => True) v141 t138) ∧ Aside0 (Kd.R (Kd.int .u8) 5 wc w.heap.size (fun _ => True) v143 t139) ∧ Aside0 (Below w.heap.size w wc))
  case first =>
    have H := HC3.out
    clear HC3
    by_cases c8 : t140 = true
    · subst c8
      have H1 : (if 0 < (t138.length : Int) then (if (rd t138 0) > 255 then (greet_Asked.j0 k t138 t139 true) else (greet_Asked.j0 k t138 t139 (decide ((wrap64 (rd t138 0)) > (t139.length : Int))))) else (none)) = some (r1, r2, r3) := by rw [if_pos rfl] at H; exact H
      clear H
      have H := H1
      clear H1
      by_cases c9 : 0 < (t138.length : Int)
      · rw [if_pos c9] at H
        have c9b0 : decide (0 < (t138.length : Int)) = true := decide_eq_true c9
        have c9b1 : decide (0 < t138.length) = true := decide_eq_true (by omega)
        clear c9
        (first | rw [c9b0] | (simp only [i64_w, i32_w]; rw [c9b0]) | skip)
        by_cases c10 : (rd t138 0) > 255
        · rw [if_pos c10] at H
          have c10b0 : decide (255 < (rd t138 0)) = true := decide_eq_true c10
          clear c10
          have H' := Aside0.mk H
          clear H
          obtain ⟨Ao11, co11, eo11⟩ := Kd.R_slice HO142.out
          subst eo11
          have p145 : 0 ≤ (0 : Int) := (by omega)
          have q145 : 0 < (t138.length : Int) := of_decide_eq_true (by first | (with_reducible assumption) | assumption)
          obtain ⟨ad145, e145, hx145_0⟩ := Kd.at_int (Kd.R_reads' HO142.out).2.2 0 p145 q145
          cases e145
          have qi145 : (0 < t138.length) = True := eq_true (by omega)
          (try rw [show ((0 : Int)).toNat = 0 from rfl] at hx145_0)
          (try rw [Addr.add_zero'] at hx145_0)
          replace p145 := eq_true p145
          replace q145 := eq_true q145
          go_wp2
          go_meet
          case rel => exact ⟨_, (true), (by first | rfl | (simp; done) | (simp [*]; done)), H', ⟨by first | omega | exact Nat.le_refl _⟩, ⟨by (with_reducible repeat (first | apply Kd.R_alloc | apply Kd.R_drewN | apply Kd.R_drew)); exact HO142.out⟩, ⟨by (with_reducible repeat (first | apply Kd.R_alloc | apply Kd.R_drewN | apply Kd.R_drew)); exact HO144.out⟩, ⟨by repeat (first | (with_reducible first | exact HB.out | apply below_alloc | apply pw_below_drewN | apply below_drew1) | exact HB.out)⟩⟩
        · rw [if_neg c10] at H
          have c10b0 : decide (255 < (rd t138 0)) = false := decide_eq_false c10
          clear c10
          have H' := Aside0.mk H
          clear H
          obtain ⟨Ao12, co12, eo12⟩ := Kd.R_slice HO142.out
          subst eo12
          have p145 : 0 ≤ (0 : Int) := (by omega)
          have q145 : 0 < (t138.length : Int) := of_decide_eq_true (by first | (with_reducible assumption) | assumption)
          obtain ⟨ad145, e145, hx145_0⟩ := Kd.at_int (Kd.R_reads' HO142.out).2.2 0 p145 q145
          cases e145
          have qi145 : (0 < t138.length) = True := eq_true (by omega)
          (try rw [show ((0 : Int)).toNat = 0 from rfl] at hx145_0)
          (try rw [Addr.add_zero'] at hx145_0)
          replace p145 := eq_true p145
          replace q145 := eq_true q145
          have p146 : 0 ≤ (0 : Int) := (by omega)
          have q146 : 0 < (t138.length : Int) := of_decide_eq_true (by first | (with_reducible assumption) | assumption)
          obtain ⟨ad146, e146, hx146_0⟩ := Kd.at_int (Kd.R_reads' HO142.out).2.2 0 p146 q146
          obtain rfl : ad145 = ad146 := (by injection e146)
          have qi146 : (0 < t138.length) = True := eq_true (by omega)
          (try rw [show ((0 : Int)).toNat = 0 from rfl] at hx146_0)
          (try rw [Addr.add_zero'] at hx146_0)
          replace p146 := eq_true p146
          replace q146 := eq_true q146
          obtain ⟨Ao13, co13, eo13⟩ := Kd.R_slice HO144.out
          subst eo13
          go_wp2
          go_meet
          case rel => exact ⟨_, (decide ((wrap64 (rd t138 0)) > (t139.length : Int))), (by first | rfl | (simp; done) | (simp [*]; done)), H', ⟨by first | omega | exact Nat.le_refl _⟩, ⟨by (with_reducible repeat (first | apply Kd.R_alloc | apply Kd.R_drewN | apply Kd.R_drew)); exact HO142.out⟩, ⟨by (with_reducible repeat (first | apply Kd.R_alloc | apply Kd.R_drewN | apply Kd.R_drew)); exact HO144.out⟩, ⟨by repeat (first | (with_reducible first | exact HB.out | apply below_alloc | apply pw_below_drewN | apply below_drew1) | exact HB.out)⟩⟩
      · rw [if_neg c9] at H
        exact absurd H (by simp)
    · replace c8 := Bool.eq_false_iff.mpr c8
      subst c8
      have H1 : (greet_Asked.j0 k t138 t139 true) = some (r1, r2, r3) := by rw [if_neg (show ¬ (false = true) by decide)] at H; exact H
      clear H
      have H := H1
      clear H1
      have H' := Aside0.mk H
      clear H
      go_wp2
      go_meet
      case rel => exact ⟨_, (true), (by first | rfl | (simp; done) | (simp [*]; done)), H', ⟨by first | omega | exact Nat.le_refl _⟩, ⟨by (with_reducible repeat (first | apply Kd.R_alloc | apply Kd.R_drewN | apply Kd.R_drew)); exact HO142.out⟩, ⟨by (with_reducible repeat (first | apply Kd.R_alloc | apply Kd.R_drewN | apply Kd.R_drew)); exact HO144.out⟩, ⟨by repeat (first | (with_reducible first | exact HB.out | apply below_alloc | apply pw_below_drewN | apply below_drew1) | exact HB.out)⟩⟩
  case rest =>
    clear HC3
    try clear c1
    try clear p1
    try clear q1
    try clear hx1
    try clear qi1
    try clear c2
    try clear p2
    try clear p6
    try clear c8
    try clear c9
    try clear c9b0
    try clear c9b1
    try clear c10
    try clear c10b0
    try clear hx145_0
    try clear hx146_0
    try clear p145
    try clear p146
    try clear q145
    try clear q146
    obtain ⟨kq, x34_2, rfl, HA, HJ2, HO_5, HO_6, HB⟩ := hcut
    cases kq with
    | zero => exact absurd HA.out (by simp [greet_Asked.j0])
    | succ kj2 =>
      have H := HA.out
      clear HA
      simp only [greet_Asked.j0] at H
      by_cases c14 : x34_2 = true
      · subst c14
        have H1 : (some ((⟨#[]⟩ : ByteArray), ([] : List Int), 74)) = some (r1, r2, r3) := by rw [if_pos rfl] at H; exact H
        clear H
        have H := H1
        clear H1
        simp only [Option.some.injEq, Prod.mk.injEq] at H
        obtain ⟨rfl, rfl, rfl⟩ := H
        go_wp2
        go_ret3
        exact ⟨_, by first | rfl | (simp [errW_none, errW_some] <;> rfl) | (simp [*, errW_none, errW_some] <;> rfl), by first | exact Kd.R_nil _ _ _ _ _ | exact Kd.N_nil _ _ _ _ _ | exact Kd.V_nil _ _ _ _ _ | exact Kd.Q_nil _ _ _ _ _ | exact Kd.S_nil _ _ _ _ _, by repeat (first | (with_reducible first | exact HB.out | apply below_alloc | apply pw_below_drewN | apply below_drew1) | exact HB.out)⟩
      · replace c14 := Bool.eq_false_iff.mpr c14
        subst c14
        have H1 : (if 0 < (t138.length : Int) then (if 0 ≤ (rd t138 0) then (if (rd t138 0) ≤ (t139.length : Int) then ((some (t139.take ((rd t138 0) : Int).toNat : List Int)).bind fun y148 => ((wire_Take.f (t139.drop ((rd t138 0) : Int).toNat) (([2] : List Int))).bind fun bt160 => (if bt160.2.2 = true then (if 0 < (bt160.1.length : Int) then (greet_Asked.j1 kj2 bt160.2.1 (strOfNums y148) ((bt160.2.1.length : Int) != (wrap64 (2 * (wrap64 (rd bt160.1 0)))))) else (none)) else (greet_Asked.j1 kj2 bt160.2.1 (strOfNums y148) true)))) else (none)) else (none)) else (none)) = some (r1, r2, r3) := by rw [if_neg (show ¬ (false = true) by decide)] at H; exact H
        clear H
        have H := H1
        clear H1
        by_cases c15 : 0 < (t138.length : Int)
        · rw [if_pos c15] at H
          have c15b0 : decide (0 < (t138.length : Int)) = true := decide_eq_true c15
          have c15b1 : decide (0 < t138.length) = true := decide_eq_true (by omega)
          clear c15
          by_cases c16 : 0 ≤ (rd t138 0)
          · rw [if_pos c16] at H
            have c16b0 := eq_true c16
            have c16b1 : decide (0 ≤ (rd t138 0)) = true := decide_eq_true c16
            clear c16
            by_cases c17 : (rd t138 0) ≤ (t139.length : Int)
            · rw [if_pos c17] at H
              have c17b0 := eq_true c17
              have c17b1 : decide ((rd t138 0) ≤ (t139.length : Int)) = true := decide_eq_true c17
              clear c17
              obtain ⟨y148, hy148⟩ : ∃ y_ : List Int, y_ = (t139.take ((rd t138 0) : Int).toNat) := ⟨_, rfl⟩
              replace H : ((wire_Take.f (t139.drop ((rd t138 0) : Int).toNat) (([2] : List Int))).bind fun bt160 => (if bt160.2.2 = true then (if 0 < (bt160.1.length : Int) then (greet_Asked.j1 kj2 bt160.2.1 (strOfNums y148) ((bt160.2.1.length : Int) != (wrap64 (2 * (wrap64 (rd bt160.1 0)))))) else (none)) else (greet_Asked.j1 kj2 bt160.2.1 (strOfNums y148) true))) = some (r1, r2, r3) := by first | (rw [hy148]; with_reducible exact H) | (have H2_ := (Option.bind_some _ _).symm.trans H; rw [hy148]; with_reducible exact H2_) | (have H2_ := (Option.bind_some _ _).symm.trans H; with_reducible exact H2_) | with_reducible exact H | (rw [hy148]; exact H) | exact H
              have Ny148 := Aside0.mk hy148
              clear hy148
              have c18b0 := eq_true (of_decide_eq_true (by first | (with_reducible assumption) | assumption) : 0 ≤ (rd t138 0))
              have c19b0 := eq_true (of_decide_eq_true (by first | (with_reducible assumption) | assumption) : (rd t138 0) ≤ (t139.length : Int))
              obtain ⟨y153, hy153⟩ : ∃ y_ : List Int, y_ = (t139.drop ((rd t138 0) : Int).toNat) := ⟨_, rfl⟩
              replace H : ((wire_Take.f y153 (([2] : List Int))).bind fun bt160 => (if bt160.2.2 = true then (if 0 < (bt160.1.length : Int) then (greet_Asked.j1 kj2 bt160.2.1 (strOfNums y148) ((bt160.2.1.length : Int) != (wrap64 (2 * (wrap64 (rd bt160.1 0)))))) else (none)) else (greet_Asked.j1 kj2 bt160.2.1 (strOfNums y148) true))) = some (r1, r2, r3) := by first | (rw [hy153]; with_reducible exact H) | (have H2_ := (Option.bind_some _ _).symm.trans H; rw [hy153]; with_reducible exact H2_) | (have H2_ := (Option.bind_some _ _).symm.trans H; with_reducible exact H2_) | with_reducible exact H | (rw [hy153]; exact H) | exact H
              have Ny153 := Aside0.mk hy153
              clear hy153
              obtain ⟨y157, hy157⟩ : ∃ y_ : List Int, y_ = (([2] : List Int)) := ⟨_, rfl⟩
              replace H : ((wire_Take.f y153 y157).bind fun bt160 => (if bt160.2.2 = true then (if 0 < (bt160.1.length : Int) then (greet_Asked.j1 kj2 bt160.2.1 (strOfNums y148) ((bt160.2.1.length : Int) != (wrap64 (2 * (wrap64 (rd bt160.1 0)))))) else (none)) else (greet_Asked.j1 kj2 bt160.2.1 (strOfNums y148) true))) = some (r1, r2, r3) := by first | (rw [hy157]; with_reducible exact H) | (have H2_ := (Option.bind_some _ _).symm.trans H; rw [hy157]; with_reducible exact H2_) | (have H2_ := (Option.bind_some _ _).symm.trans H; with_reducible exact H2_) | with_reducible exact H | (rw [hy157]; exact H) | exact H
              have Ny157 := Aside0.mk hy157
              clear hy157
              replace H := Option.bind_eq_some_iff.mp H
              obtain ⟨⟨t160, t161, t162⟩, A200, H⟩ := H
              replace H : (if t162 = true then (if 0 < (t160.length : Int) then (greet_Asked.j1 kj2 t161 (strOfNums y148) ((t161.length : Int) != (wrap64 (2 * (wrap64 (rd t160 0)))))) else (none)) else (greet_Asked.j1 kj2 t161 (strOfNums y148) true)) = some (r1, r2, r3) := H
              have A20 := Aside0.mk A200
              clear A200
              have HC21 := Aside0.mk H
              clear H
              obtain ⟨Ao22, co22, eo22⟩ := Kd.R_slice HO_5.out
              subst eo22
              have p147 : 0 ≤ (0 : Int) := (by omega)
              have q147 : 0 < (t138.length : Int) := of_decide_eq_true (by first | (with_reducible assumption) | assumption)
              obtain ⟨ad147, e147, hx147_0⟩ := Kd.at_int (Kd.R_reads' HO_5.out).2.2 0 p147 q147
              cases e147
              have qi147 : (0 < t138.length) = True := eq_true (by omega)
              (try rw [show ((0 : Int)).toNat = 0 from rfl] at hx147_0)
              (try rw [Addr.add_zero'] at hx147_0)
              replace p147 := eq_true p147
              replace q147 := eq_true q147
              obtain ⟨Ao24, co24, eo24⟩ := Kd.R_slice HO_6.out
              subst eo24
              have q23 : ((rd t138 0) : Int) ≤ ((t139.length : Int) : Int) := of_decide_eq_true (by first | (with_reducible assumption) | assumption)
              obtain ⟨i023, hi023, _, hsz23, _⟩ := info_parts info5
              have hroom23 : t139.length ≤ co24 := (Kd.R_reads' HO_6.out).2.1
              have hC23 : Kd.C (Kd.int .u8) _ Ao24 t139.length t139 := (Kd.R_reads' HO_6.out).2.2
              have hcut23 := cut_to (P := Try.prog) 22 5 .u64 Try.underlying22 hi023 Ao24 t139.length co24 (rd t138 0) (of_decide_eq_true (by first | (with_reducible assumption) | assumption)) q23 hroom23
              have hr23 := Kd.C_take (m := ((rd t138 0) : Int).toNat) hC23 (by omega)
              have hy23 : y148.length = ((rd t138 0) : Int).toNat := (by rw [Ny148.out, List.length_take]; omega)
              rw [← Ny148.out] at hr23
              rw [← hy23] at hcut23
              have HR151 := Aside0.mk hr23
              have HC151 := Aside0.mk (show y148.length ≤ co24 from by omega)
              clear hr23 hC23 hroom23 hi023 hsz23
              have KY23 := Aside0.mk hy23
              clear hy23
              have KL23 := Aside0.mk (show ((rd t138 0) : Int).toNat ≤ t139.length from by omega)
              replace q23 := eq_true q23
              have hcv25 := Kd.C_string (P := Try.prog) (A := Ao24) (c := co24) Try.underlying22 Try.underlying5 Try.underlying9 (by repeat (first | (with_reducible exact HR151.out) | (with_reducible refine Kd.C_alloc ?_ _) | (with_reducible refine Kd.C_drewN ?_ _) | (with_reducible refine Kd.C_drew ?_) | exact HR151.out))
              have p152 : 0 ≤ (0 : Int) := (by omega)
              have q152 : 0 < (t138.length : Int) := of_decide_eq_true (by first | (with_reducible assumption) | assumption)
              obtain ⟨ad152, e152, hx152_0⟩ := Kd.at_int (Kd.R_reads' HO_5.out).2.2 0 p152 q152
              obtain rfl : ad147 = ad152 := (by injection e152)
              have qi152 : (0 < t138.length) = True := eq_true (by omega)
              (try rw [show ((0 : Int)).toNat = 0 from rfl] at hx152_0)
              (try rw [Addr.add_zero'] at hx152_0)
              replace p152 := eq_true p152
              replace q152 := eq_true q152
              have q26 : ((rd t138 0) : Int) ≤ ((t139.length : Int) : Int) := of_decide_eq_true (by first | (with_reducible assumption) | assumption)
              obtain ⟨i026, hi026, _, hsz26, _⟩ := info_parts info5
              have hroom26 : t139.length ≤ co24 := (Kd.R_reads' HO_6.out).2.1
              have hC26 : Kd.C (Kd.int .u8) _ Ao24 t139.length t139 := (Kd.R_reads' HO_6.out).2.2
              have q026 : (0 : Int) ≤ ((rd t138 0) : Int) := of_decide_eq_true (by first | (with_reducible assumption) | assumption)
              have hcut26 := cut_from (P := Try.prog) 22 5 .u64 Try.underlying22 hi026 1 hsz26 Ao24 t139.length co24 (rd t138 0) q026 q26
              have hr26 := Kd.C_drop (m := ((rd t138 0) : Int).toNat) (c := co24) hC26 (by omega) hroom26
              obtain ⟨A26, hA26⟩ : ∃ A1, A1 = (if co24 = ((rd t138 0) : Int).toNat then Ao24 else (Ao24 : Option Addr).map (·.add (((rd t138 0) : Int).toNat * 1))) := ⟨_, rfl⟩
              obtain ⟨c26, hc26⟩ : ∃ c1, c1 = co24 - ((rd t138 0) : Int).toNat := ⟨_, rfl⟩
              have hy26 : y153.length = t139.length - ((rd t138 0) : Int).toNat := (by rw [Ny153.out, List.length_drop] <;> omega)
              rw [show (t139).drop ((rd t138 0) : Int).toNat = y153 from Ny153.out.symm] at hr26
              replace hr26 : Kd.C (Kd.int .u8) _ A26 y153.length y153 := (by rw [hA26]; exact hr26)
              rw [← hy26, ← hA26, ← hc26] at hcut26
              have HR156 := Aside0.mk hr26
              have HC156 := Aside0.mk (show y153.length ≤ c26 from by rw [hy26, hc26]; exact Nat.sub_le_sub_right hroom26 _)
              clear hr26 hC26 hroom26 hi026 hsz26 hc26
              have KY26 := Aside0.mk hy26
              have KA26 := Aside0.mk hA26
              clear hy26 hA26
              have KL26 := Aside0.mk (show ((rd t138 0) : Int).toNat ≤ t139.length from by omega)
              replace q26 := eq_true q26
              go_upto_region 6 with (first | ((with_reducible refine gate_dst (N := 47) rfl ?_); (try (refine gate_guard (by rfl) ?_; dsimp only)); refine Kd.R_lit (Kd.int .i64) _ 3 ?hg (N := 47) ?hd (xs := ([2] : List Int)) (inner := [.int .i64 2]) (ok := fun _ => True) (okp := fun _ => True) ?hr ?hp (fun _ hk => hk) trivial (Below.refl _ _) (Nat.le_refl _) (by simp) ?_; (case hd => rfl); (case hg => rfl); (case hr => first | (go_simp; done) | (go_simp; rfl)); (case hp => exact (Reps.one (show Kd.M (Kd.int .i64) _ _ _ 2 [.int .i64 2] from rfl) (Reps.none _ _))); intro v158 w27 ho28 hb hg_ hnew_; clear hg_ hnew_; (first | rw [← Ny157.out] at ho28 | (simp only [Int.reduceToNat] at ho28; rw [← Ny157.out] at ho28)); have n0_ := Aside0.mk (Kd.R_below (by (with_reducible repeat (first | apply Kd.R_alloc | apply Kd.R_drewN | apply Kd.R_drew)); exact HO_5.out) hb); have n1_ := Aside0.mk (Kd.R_below (by (with_reducible repeat (first | apply Kd.R_alloc | apply Kd.R_drewN | apply Kd.R_drew)); exact HO_6.out) hb); have n2_ := Aside0.mk (Kd.R_lower ho28 (below_size (by repeat (first | (with_reducible first | exact HB.out | apply below_alloc | apply pw_below_drewN | apply below_drew1) | exact HB.out)))); have n3_ := Aside0.mk (Kd.C_below (by repeat (first | (with_reducible exact HR151.out) | (with_reducible refine Kd.C_alloc ?_ _) | (with_reducible refine Kd.C_drewN ?_ _) | (with_reducible refine Kd.C_drew ?_) | exact HR151.out)) hb); have n4_ := Aside0.mk (Kd.C_below (by repeat (first | (with_reducible exact HR156.out) | (with_reducible refine Kd.C_alloc ?_ _) | (with_reducible refine Kd.C_drewN ?_ _) | (with_reducible refine Kd.C_drew ?_) | exact HR156.out)) hb); have n5_ := Aside0.mk (below_step (by repeat (first | (with_reducible first | exact HB.out | apply below_alloc | apply pw_below_drewN | apply below_drew1) | exact HB.out)) hb); clear HO_5; clear HO_6; clear HR151; clear HR156; clear HB; have HO_5 := n0_; have HO_6 := n1_; have HO159 := n2_; have HR151 := n3_; have HR156 := n4_; have HB := n5_; clear n0_ n1_ n2_ n3_ n4_ n5_; clear hb ho28; obtain ⟨Ao29, co29, eo29⟩ := Kd.R_slice HO159.out; subst eo29) | ((with_reducible refine gate_callee (f := 28) rfl ?_); refine goesL_ (some 48) rfl rfl Try.func28 (by kernel_rfl) rfl #[.slice A26 y153.length c26, .slice Ao29 y157.length co29] rfl (by (try simp only [List.map_toArray, List.map_cons, List.map_nil]); first | done | rfl | (simp only [List.length_drop, List.length_take]; rfl) | (simp only [List.length_drop, List.length_take]; (repeat rw [Nat.min_eq_left (by simp only [eq_iff_iff, iff_true] at *; omega)]); rfl)) ?_; (with_reducible refine (wire_Take.calls _ _ y153 _ _ y157 t160 t161 t162 _ ?side1 ?side2 ?side3 ?side4 A20.out).mono ?_); (case side1 => repeat (first | exact (by repeat (first | (with_reducible exact HR156.out) | (with_reducible refine Kd.C_alloc ?_ _) | (with_reducible refine Kd.C_drewN ?_ _) | (with_reducible refine Kd.C_drew ?_) | exact HR156.out)) | (with_reducible refine Kd.C_alloc ?_ _) | (with_reducible refine Kd.C_drewN ?_ _) | (with_reducible refine Kd.C_drew ?_))); (case side2 => exact HC156.out); (case side3 => repeat (first | exact (Kd.R_reads' HO159.out).2.2 | (with_reducible refine Kd.C_alloc ?_ _) | (with_reducible refine Kd.C_drewN ?_ _) | (with_reducible refine Kd.C_drew ?_))); (case side4 => exact (Kd.R_reads' HO159.out).2.1); rintro e w30 ⟨v163, v165, rfl, ho0, ho1, hb⟩; refine ⟨_, rfl, ?_⟩; have n0_ := Aside0.mk (Kd.R_elder' (by (with_reducible repeat (first | apply Kd.R_alloc | apply Kd.R_drewN | apply Kd.R_drew)); exact HO_5.out) (Kd.R_base ho0) hb); have n1_ := Aside0.mk (Kd.R_elder' (by (with_reducible repeat (first | apply Kd.R_alloc | apply Kd.R_drewN | apply Kd.R_drew)); exact HO_6.out) (Kd.R_base ho1) hb); have n2_ := Aside0.mk (Kd.R_below (by (with_reducible repeat (first | apply Kd.R_alloc | apply Kd.R_drewN | apply Kd.R_drew)); exact HO159.out) hb); have n3_ := Aside0.mk (Kd.R_lower (Kd.R_new' ho0 (Kd.R_lt (by (with_reducible repeat (first | apply Kd.R_alloc | apply Kd.R_drewN | apply Kd.R_drew)); exact HO_5.out))) (below_size (by repeat (first | (with_reducible first | exact HB.out | apply below_alloc | apply pw_below_drewN | apply below_drew1) | exact HB.out)))); have n4_ := Aside0.mk (Kd.R_lower (Kd.R_new' ho1 (Kd.R_lt (by (with_reducible repeat (first | apply Kd.R_alloc | apply Kd.R_drewN | apply Kd.R_drew)); exact HO_6.out))) (below_size (by repeat (first | (with_reducible first | exact HB.out | apply below_alloc | apply pw_below_drewN | apply below_drew1) | exact HB.out)))); have n5_ := Aside0.mk (Kd.C_below (by repeat (first | (with_reducible exact HR151.out) | (with_reducible refine Kd.C_alloc ?_ _) | (with_reducible refine Kd.C_drewN ?_ _) | (with_reducible refine Kd.C_drew ?_) | exact HR151.out)) hb); have n6_ := Aside0.mk (Kd.C_below (by repeat (first | (with_reducible exact HR156.out) | (with_reducible refine Kd.C_alloc ?_ _) | (with_reducible refine Kd.C_drewN ?_ _) | (with_reducible refine Kd.C_drew ?_) | exact HR156.out)) hb); have n7_ := Aside0.mk (below_step (by repeat (first | (with_reducible first | exact HB.out | apply below_alloc | apply pw_below_drewN | apply below_drew1) | exact HB.out)) hb); clear HO_5; clear HO_6; clear HO159; clear HR151; clear HR156; clear HB; have HO_5 := n0_; have HO_6 := n1_; have HO159 := n2_; have HO164 := n3_; have HO166 := n4_; have HR151 := n5_; have HR156 := n6_; have HB := n7_; clear n0_ n1_ n2_ n3_ n4_ n5_ n6_ n7_; (try clear hb); (try clear hb2); (try clear hk); (try clear hi); (try clear ho0); (try clear ho1)))
              (try simp only [Act.put, List.setIfInBounds_toArray, List.set_cons_zero, List.set_cons_succ])
              go_cut [63] (fun v63 wc => ∃ (kq : Nat) (x63_20 : Bool), v63 = .bool x63_20 ∧ Aside0 (greet_Asked.j1 kq t161 (strOfNums y148) x63_20 = some (r1, r2, r3)) ∧ Aside0 (kq ≤ kj2) ∧ Aside0 (Kd.R (Kd.int .u8) 5 wc w.heap.size (fun _ => True) v165 t161) ∧ Aside0 (Kd.C (Kd.int .u8) wc Ao24 y148.length y148) ∧ Aside0 (Kd.C (Kd.int .u8) wc A26 y153.length y153) ∧ Aside0 (Below w.heap.size w wc))
              case first =>
                have H := HC21.out
                clear HC21
                by_cases c31 : t162 = true
                · subst c31
                  have H1 : (if 0 < (t160.length : Int) then (greet_Asked.j1 kj2 t161 (strOfNums y148) ((t161.length : Int) != (wrap64 (2 * (wrap64 (rd t160 0)))))) else (none)) = some (r1, r2, r3) := by rw [if_pos rfl] at H; exact H
                  clear H
                  have H := H1
                  clear H1
                  by_cases c32 : 0 < (t160.length : Int)
                  · rw [if_pos c32] at H
                    have c32b0 : decide (0 < (t160.length : Int)) = true := decide_eq_true c32
                    have c32b1 : decide (0 < t160.length) = true := decide_eq_true (by omega)
                    clear c32
                    (first | rw [c32b0] | (simp only [i64_w, i32_w]; rw [c32b0]) | skip)
                    have H' := Aside0.mk H
                    clear H
                    obtain ⟨Ao33, co33, eo33⟩ := Kd.R_slice HO166.out
                    subst eo33
                    obtain ⟨Ao34, co34, eo34⟩ := Kd.R_slice HO164.out
                    subst eo34
                    have p167 : 0 ≤ (0 : Int) := (by omega)
                    have q167 : 0 < (t160.length : Int) := of_decide_eq_true (by first | (with_reducible assumption) | assumption)
                    obtain ⟨ad167, e167, hx167_0⟩ := Kd.at_int (Kd.R_reads' HO164.out).2.2 0 p167 q167
                    cases e167
                    have qi167 : (0 < t160.length) = True := eq_true (by omega)
                    (try rw [show ((0 : Int)).toNat = 0 from rfl] at hx167_0)
                    (try rw [Addr.add_zero'] at hx167_0)
                    replace p167 := eq_true p167
                    replace q167 := eq_true q167
                    go_wp2
                    go_meet
                    case rel => exact ⟨_, (((t161.length : Int) != (wrap64 (2 * (wrap64 (rd t160 0)))))), (by first | rfl | (simp; done) | (simp [*]; done)), H', ⟨by have := HJ2.out; first | omega | exact Nat.le_refl _⟩, ⟨by (with_reducible repeat (first | apply Kd.R_alloc | apply Kd.R_drewN | apply Kd.R_drew)); exact Kd.R_mono HO166.out (fun _ hk => trivial)⟩, ⟨by repeat (first | (with_reducible exact HR151.out) | (with_reducible refine Kd.C_alloc ?_ _) | (with_reducible refine Kd.C_drewN ?_ _) | (with_reducible refine Kd.C_drew ?_) | exact HR151.out)⟩, ⟨by repeat (first | (with_reducible exact HR156.out) | (with_reducible refine Kd.C_alloc ?_ _) | (with_reducible refine Kd.C_drewN ?_ _) | (with_reducible refine Kd.C_drew ?_) | exact HR156.out)⟩, ⟨by repeat (first | (with_reducible first | exact HB.out | apply below_alloc | apply pw_below_drewN | apply below_drew1) | exact HB.out)⟩⟩
                  · rw [if_neg c32] at H
                    exact absurd H (by simp)
                · replace c31 := Bool.eq_false_iff.mpr c31
                  subst c31
                  have H1 : (greet_Asked.j1 kj2 t161 (strOfNums y148) true) = some (r1, r2, r3) := by rw [if_neg (show ¬ (false = true) by decide)] at H; exact H
                  clear H
                  have H := H1
                  clear H1
                  have H' := Aside0.mk H
                  clear H
                  go_wp2
                  go_meet
                  case rel => exact ⟨_, (true), (by first | rfl | (simp; done) | (simp [*]; done)), H', ⟨by have := HJ2.out; first | omega | exact Nat.le_refl _⟩, ⟨by (with_reducible repeat (first | apply Kd.R_alloc | apply Kd.R_drewN | apply Kd.R_drew)); exact Kd.R_mono HO166.out (fun _ hk => trivial)⟩, ⟨by repeat (first | (with_reducible exact HR151.out) | (with_reducible refine Kd.C_alloc ?_ _) | (with_reducible refine Kd.C_drewN ?_ _) | (with_reducible refine Kd.C_drew ?_) | exact HR151.out)⟩, ⟨by repeat (first | (with_reducible exact HR156.out) | (with_reducible refine Kd.C_alloc ?_ _) | (with_reducible refine Kd.C_drewN ?_ _) | (with_reducible refine Kd.C_drew ?_) | exact HR156.out)⟩, ⟨by repeat (first | (with_reducible first | exact HB.out | apply below_alloc | apply pw_below_drewN | apply below_drew1) | exact HB.out)⟩⟩
              case rest =>
                clear HC21
                try clear c1
                try clear p1
                try clear q1
                try clear hx1
                try clear qi1
                try clear c2
                try clear p2
                try clear q2
                try clear hcv2
                try clear c3
                try clear p6
                try clear c8
                try clear c9
                try clear c9b0
                try clear c9b1
                try clear c10
                try clear c10b0
                try clear c14
                try clear p14
                try clear q14
                try clear hx14
                try clear qi14
                try clear c15
                try clear c15b0
                try clear c15b1
                try clear p15
                try clear q15
                try clear hx15
                try clear qi15
                try clear c16
                try clear c16b0
                try clear c16b1
                try clear p16
                try clear q16
                try clear hx16
                try clear qi16
                try clear c17
                try clear c17b0
                try clear c17b1
                try clear c18
                try clear c18b0
                try clear c19
                try clear c19b0
                try clear q23
                try clear hcv25
                try clear c26
                try clear q26
                try clear c28
                try clear c31
                try clear c32
                try clear c32b0
                try clear c32b1
                try clear hx145_0
                try clear hx146_0
                try clear hx147_0
                try clear hx152_0
                try clear hx167_0
                try clear p1
                try clear p145
                try clear p146
                try clear p147
                try clear p152
                try clear p167
                try clear p2
                try clear p6
                try clear q026
                try clear q1
                try clear q145
                try clear q146
                try clear q147
                try clear q152
                try clear q167
                try clear q23
                try clear q26
                obtain ⟨kq, x63_20, rfl, HA, HJ20, HO_6, HR151, HR156, HB⟩ := hcut
                cases kq with
                | zero => exact absurd HA.out (by simp [greet_Asked.j1])
                | succ kj20 =>
                  have H := HA.out
                  clear HA
                  simp only [greet_Asked.j1] at H
                  by_cases c35 : x63_20 = true
                  · subst c35
                    have H1 : (some ((⟨#[]⟩ : ByteArray), ([] : List Int), 74)) = some (r1, r2, r3) := by rw [if_pos rfl] at H; exact H
                    clear H
                    have H := H1
                    clear H1
                    simp only [Option.some.injEq, Prod.mk.injEq] at H
                    obtain ⟨rfl, rfl, rfl⟩ := H
                    go_wp2
                    go_ret3
                    exact ⟨_, by first | rfl | (simp [errW_none, errW_some] <;> rfl) | (simp [*, errW_none, errW_some] <;> rfl), by first | exact Kd.R_nil _ _ _ _ _ | exact Kd.N_nil _ _ _ _ _ | exact Kd.V_nil _ _ _ _ _ | exact Kd.Q_nil _ _ _ _ _ | exact Kd.S_nil _ _ _ _ _, by repeat (first | (with_reducible first | exact HB.out | apply below_alloc | apply pw_below_drewN | apply below_drew1) | exact HB.out)⟩
                  · replace c35 := Bool.eq_false_iff.mpr c35
                    subst c35
                    have H1 : (greet_Asked.l0 kj20 t161 (strOfNums y148) ([] : List Int) 1) = some (r1, r2, r3) := by rw [if_neg (show ¬ (false = true) by decide)] at H; exact H
                    clear H
                    have H := H1
                    clear H1
                    have H' := Aside0.mk H
                    clear H
                    go_wp2
                    go_loopg [9, 10] kj20 (fun kq v9 v10 w' => ∃ (x9_3 : List Int) (x10_3 : Int), v10 = .int .i64 x10_3 ∧ Aside0 (greet_Asked.l0 kq t161 (strOfNums y148) x9_3 x10_3 = some (r1, r2, r3)) ∧ Aside0 (kq ≤ kj20) ∧ Aside0 (Kd.R (Kd.int .u8) 5 w' w.heap.size (fun _ => True) v165 t161) ∧ Aside0 (Kd.R (Kd.int .u16) 24 w' w.heap.size (fun _ => True) v9 x9_3) ∧ Aside0 (Below w.heap.size w w'))
                    case atStart => exact ⟨(([] : List Int)), (1), (by first | rfl | (simp; done) | (simp [*]; done)), H', ⟨Nat.le_refl _⟩, ⟨by (with_reducible repeat (first | apply Kd.R_alloc | apply Kd.R_drewN | apply Kd.R_drew)); exact HO_6.out⟩, ⟨by first | exact Kd.R_nil _ _ _ _ _ | exact Kd.N_nil _ _ _ _ _ | exact Kd.V_nil _ _ _ _ _ | exact Kd.Q_nil _ _ _ _ _ | exact Kd.S_nil _ _ _ _ _⟩, ⟨by repeat (first | (with_reducible first | exact HB.out | apply below_alloc | apply pw_below_drewN | apply below_drew1) | exact HB.out)⟩⟩
                    case round =>
                      clear H'
                      try clear c1
                      try clear p1
                      try clear q1
                      try clear hx1
                      try clear qi1
                      try clear c2
                      try clear p2
                      try clear q2
                      try clear hcv2
                      try clear c3
                      try clear p6
                      try clear c8
                      try clear c9
                      try clear c9b0
                      try clear c9b1
                      try clear c10
                      try clear c10b0
                      try clear c14
                      try clear p14
                      try clear q14
                      try clear hx14
                      try clear qi14
                      try clear c15
                      try clear c15b0
                      try clear c15b1
                      try clear p15
                      try clear q15
                      try clear hx15
                      try clear qi15
                      try clear c16
                      try clear c16b0
                      try clear c16b1
                      try clear p16
                      try clear q16
                      try clear hx16
                      try clear qi16
                      try clear c17
                      try clear c17b0
                      try clear c17b1
                      try clear c18
                      try clear c18b0
                      try clear c19
                      try clear c19b0
                      try clear q23
                      try clear hcv25
                      try clear c26
                      try clear q26
                      try clear c28
                      try clear c31
                      try clear c32
                      try clear c32b0
                      try clear c32b1
                      try clear c35
                      try clear hx145_0
                      try clear hx146_0
                      try clear hx147_0
                      try clear hx152_0
                      try clear hx167_0
                      try clear p1
                      try clear p14
                      try clear p145
                      try clear p146
                      try clear p147
                      try clear p15
                      try clear p152
                      try clear p16
                      try clear p167
                      try clear p2
                      try clear p6
                      try clear q026
                      try clear q1
                      try clear q14
                      try clear q145
                      try clear q146
                      try clear q147
                      try clear q15
                      try clear q152
                      try clear q16
                      try clear q167
                      try clear q2
                      try clear q23
                      try clear q26
                      obtain ⟨x9_3, x10_3, rfl, HA, HK3, HO_6, HO_9, HB⟩ := hrel
                      cases gk with
                      | zero => exact absurd HA.out (by simp [greet_Asked.l0])
                      | succ k3 =>
                        have H := HA.out
                        clear HA
                        simp only [greet_Asked.l0] at H
                        by_cases c36 : x10_3 < (t161.length : Int)
                        · rw [if_pos c36] at H
                          have c36b0 : decide (x10_3 < (t161.length : Int)) = true := decide_eq_true c36
                          clear c36
                          obtain ⟨ji37, hji37⟩ : ∃ j_ : Int, (wrap64 (x10_3 - 1)) = j_ := ⟨_, rfl⟩
                          replace H : (if 0 ≤ (ji37) then (if (ji37) < (t161.length : Int) then (if 0 ≤ x10_3 then (if x9_3.length < 70368744177664 then (greet_Asked.l0 k3 t161 (strOfNums y148) (x9_3 ++ [Go.bits .or .u16 (IntKind.u16.wrap ((IntKind.u16.wrap (rd t161 (ji37))) * 256)) (IntKind.u16.wrap (rd t161 x10_3))]) (wrap64 (x10_3 + 2))) else (none)) else (none)) else (none)) else (none)) = some (r1, r2, r3) := by first | (rw [hji37] at H; exact H) | (simp only [hji37] at H ⊢; exact H)
                          have hji37w : (IntKind.i64.wrap (x10_3 - 1)) = ji37 := (i64_w _).trans hji37
                          by_cases c38 : 0 ≤ (ji37)
                          · rw [if_pos c38] at H
                            have c38b0 : decide (0 ≤ (ji37)) = true := decide_eq_true c38
                            clear c38
                            by_cases c39 : (ji37) < (t161.length : Int)
                            · rw [if_pos c39] at H
                              have c39b0 : decide ((ji37) < (t161.length : Int)) = true := decide_eq_true c39
                              clear c39
                              by_cases c40 : 0 ≤ x10_3
                              · rw [if_pos c40] at H
                                have c40b0 : decide (0 ≤ x10_3) = true := decide_eq_true c40
                                clear c40
                                by_cases c41 : x9_3.length < 70368744177664
                                · rw [if_pos c41] at H
                                  have LMc41 := Aside0.mk c41
                                  clear c41
                                  obtain ⟨y170, hy170⟩ : ∃ y_ : List Int, y_ = (x9_3 ++ [Go.bits .or .u16 (IntKind.u16.wrap ((IntKind.u16.wrap (rd t161 (ji37))) * 256)) (IntKind.u16.wrap (rd t161 x10_3))]) := ⟨_, rfl⟩
                                  replace H : (greet_Asked.l0 k3 t161 (strOfNums y148) y170 (wrap64 (x10_3 + 2))) = some (r1, r2, r3) := by first | (rw [hy170]; with_reducible exact H) | (have H2_ := (Option.bind_some _ _).symm.trans H; rw [hy170]; with_reducible exact H2_) | (have H2_ := (Option.bind_some _ _).symm.trans H; with_reducible exact H2_) | with_reducible exact H | (rw [hy170]; exact H) | exact H
                                  have Ny170 := Aside0.mk hy170
                                  clear hy170
                                  have H' := Aside0.mk H
                                  clear H
                                  obtain ⟨Ao42, co42, eo42⟩ := Kd.R_slice HO_6.out
                                  subst eo42
                                  try go_wp2
                                  have n0_ := Aside0.mk (Kd.R_drew HO_6.out)
                                  have n1_ := Aside0.mk (Kd.R_drew HO_9.out)
                                  have n2_ := Aside0.mk (below_drew1 HB.out)
                                  clear HO_6
                                  clear HO_9
                                  clear HB
                                  have HO_6 := n0_
                                  have HO_9 := n1_
                                  have HB := n2_
                                  clear n0_ n1_ n2_
                                  have p168 : 0 ≤ ((ji37) : Int) := of_decide_eq_true (by first | (with_reducible assumption) | assumption)
                                  have q168 : (ji37) < (t161.length : Int) := of_decide_eq_true (by first | (with_reducible assumption) | assumption)
                                  obtain ⟨ad168, e168, hx168_0⟩ := Kd.at_int (Kd.R_reads' HO_6.out).2.2 (ji37) p168 q168
                                  cases e168
                                  replace p168 := eq_true p168
                                  replace q168 := eq_true q168
                                  have p169 : 0 ≤ (x10_3 : Int) := of_decide_eq_true (by first | (with_reducible assumption) | assumption)
                                  have q169 : x10_3 < (t161.length : Int) := of_decide_eq_true (by first | (with_reducible assumption) | assumption)
                                  obtain ⟨ad169, e169, hx169_0⟩ := Kd.at_int (Kd.R_reads' HO_6.out).2.2 x10_3 p169 q169
                                  obtain rfl : ad168 = ad169 := (by injection e169)
                                  replace p169 := eq_true p169
                                  replace q169 := eq_true q169
                                  refine start_ (n := 17) (S := fun w' => w'.cell? (ad168.add ((ji37)).toNat) = some (.int .u8 (rd t161 (ji37))) ∧ w'.cell? (ad168.add (x10_3).toNat) = some (.int .u8 (rd t161 x10_3))) (ds := [14, 15]) #[false, false, false, false, false, false, false, false, false, false, false, false, false, false, false, false, false] (by kernel_rfl) rfl rfl ⟨hx168_0, hx169_0⟩ (fun hHeld => ?_); refine with_tabW greet_Asked.tab12 greet_Asked.bits12 (fun HT_ HW_ => ?_)
                                  generalize wr.drew = w43 at HO_6 HO_9 HB hx168_0 hx169_0 hHeld ⊢
                                  refine pure_ (i := 0) (N := some 70) (v := ?_) (a' := ?_) #[true, false, false, false, false, false, false, false, false, false, false, false, false, false, false, false, false] rfl rfl (any_of HT_.out (by kernel_rfl)) (fun _ _ _ h => h) (Or.inl ⟨by rfl, ?_⟩) ?_ ?_
                                  rotate_left
                                  · intro w'
                                    go_simp
                                    with_reducible rfl
                                  rotate_left
                                  · simp only [Act.put, List.setIfInBounds_toArray, List.set_cons_zero, List.set_cons_succ, i64_w, i32_w]
                                    rfl
                                  refine pure_ (i := 1) (N := some 71) (v := ?_) (a' := ?_) #[true, true, false, false, false, false, false, false, false, false, false, false, false, false, false, false, false] rfl rfl (any_of HT_.out (by kernel_rfl)) (fun _ _ _ h => h) (Or.inl ⟨by rfl, ?_⟩) ?_ ?_
                                  rotate_left
                                  · intro w'
                                    go_simp
                                    with_reducible rfl
                                  rotate_left
                                  · simp only [Act.put, List.setIfInBounds_toArray, List.set_cons_zero, List.set_cons_succ, i64_w, i32_w]
                                    rfl
                                  refine pure_ (i := 2) (N := some 72) (v := ?_) (a' := ?_) #[true, true, true, false, false, false, false, false, false, false, false, false, false, false, false, false, false] rfl rfl (any_of HT_.out (by kernel_rfl)) (fun _ _ _ h => h) (Or.inl ⟨by rfl, ?_⟩) ?_ ?_
                                  rotate_left
                                  · intro w'
                                    go_simp
                                    with_reducible rfl
                                  rotate_left
                                  · simp only [Act.put, List.setIfInBounds_toArray, List.set_cons_zero, List.set_cons_succ, i64_w, i32_w]
                                    rfl
                                  refine pure_ (i := 3) (N := some 73) (v := ?_) (a' := ?_) #[true, true, true, true, false, false, false, false, false, false, false, false, false, false, false, false, false] rfl rfl (any_of HT_.out (by kernel_rfl)) (fun _ _ _ h => h) (Or.inl ⟨by rfl, ?_⟩) ?_ ?_
                                  rotate_left
                                  · intro w'
                                    go_simp
                                    with_reducible rfl
                                  rotate_left
                                  · simp only [Act.put, List.setIfInBounds_toArray, List.set_cons_zero, List.set_cons_succ, i64_w, i32_w]
                                    rfl
                                  refine pure_ (i := 4) (N := some 74) (v := ?_) (a' := ?_) #[true, true, true, true, true, false, false, false, false, false, false, false, false, false, false, false, false] rfl rfl (any_of HT_.out (by kernel_rfl)) (fun _ _ _ h => h) (Or.inl ⟨by rfl, ?_⟩) ?_ ?_
                                  rotate_left
                                  · intro w'
                                    go_simp
                                    with_reducible rfl
                                  rotate_left
                                  · simp only [Act.put, List.setIfInBounds_toArray, List.set_cons_zero, List.set_cons_succ, i64_w, i32_w]
                                    rfl
                                  refine pure_ (i := 8) (N := some 78) (v := ?_) (a' := ?_) #[true, true, true, true, true, false, false, false, true, false, false, false, false, false, false, false, false] rfl rfl (any_of HT_.out (by kernel_rfl)) (fun _ _ _ h => h) (Or.inl ⟨by rfl, ?_⟩) ?_ ?_
                                  rotate_left
                                  · intro w'
                                    go_simp
                                    with_reducible rfl
                                  rotate_left
                                  · simp only [Act.put, List.setIfInBounds_toArray, List.set_cons_zero, List.set_cons_succ, i64_w, i32_w]
                                    rfl
                                  refine pure_ (i := 9) (N := some 79) (v := ?_) (a' := ?_) #[true, true, true, true, true, false, false, false, true, true, false, false, false, false, false, false, false] rfl rfl (any_of HT_.out (by kernel_rfl)) (fun _ _ _ h => h) (Or.inl ⟨by rfl, ?_⟩) ?_ ?_
                                  rotate_left
                                  · intro w'
                                    go_simp
                                    with_reducible rfl
                                  rotate_left
                                  · simp only [Act.put, List.setIfInBounds_toArray, List.set_cons_zero, List.set_cons_succ, i64_w, i32_w]
                                    rfl
                                  refine pure_ (i := 10) (N := some 80) (v := ?_) (a' := ?_) #[true, true, true, true, true, false, false, false, true, true, true, false, false, false, false, false, false] rfl rfl (any_of HT_.out (by kernel_rfl)) (fun _ _ _ h => h) (Or.inl ⟨by rfl, ?_⟩) ?_ ?_
                                  rotate_left
                                  · intro w'
                                    go_simp
                                    with_reducible rfl
                                  rotate_left
                                  · simp only [Act.put, List.setIfInBounds_toArray, List.set_cons_zero, List.set_cons_succ, i64_w, i32_w]
                                    rfl
                                  refine take_ (i := 5) (N := some 75) (v := ?_) (a' := ?_) #[true, true, true, true, true, true, false, false, true, true, true, false, false, false, false, false, false] rfl rfl (take_ofW HT_.out HW_.out (by kernel_rfl)) (fun _ _ _ h => h) (Or.inl ⟨by rfl, ?_⟩) hHeld ?_ ?_
                                  rotate_left
                                  · rintro w' ⟨s0, s1⟩
                                    go_simp
                                    with_reducible rfl
                                  rotate_left
                                  · simp only [Act.put, List.setIfInBounds_toArray, List.set_cons_zero, List.set_cons_succ, i64_w, i32_w]
                                    rfl
                                  refine pure_ (i := 6) (N := some 76) (v := ?_) (a' := ?_) #[true, true, true, true, true, true, true, false, true, true, true, false, false, false, false, false, false] rfl rfl (any_of HT_.out (by kernel_rfl)) (fun _ _ _ h => h) (Or.inl ⟨by rfl, ?_⟩) ?_ ?_
                                  rotate_left
                                  · intro w'
                                    go_simp
                                    with_reducible rfl
                                  rotate_left
                                  · simp only [Act.put, List.setIfInBounds_toArray, List.set_cons_zero, List.set_cons_succ, i64_w, i32_w]
                                    rfl
                                  refine pure_ (i := 7) (N := some 77) (v := ?_) (a' := ?_) #[true, true, true, true, true, true, true, true, true, true, true, false, false, false, false, false, false] rfl rfl (any_of HT_.out (by kernel_rfl)) (fun _ _ _ h => h) (Or.inl ⟨by rfl, ?_⟩) ?_ ?_
                                  rotate_left
                                  · intro w'
                                    go_simp
                                    with_reducible rfl
                                  rotate_left
                                  · simp only [Act.put, List.setIfInBounds_toArray, List.set_cons_zero, List.set_cons_succ, i64_w, i32_w]
                                    rfl
                                  refine take_ (i := 11) (N := some 81) (v := ?_) (a' := ?_) #[true, true, true, true, true, true, true, true, true, true, true, true, false, false, false, false, false] rfl rfl (take_ofW HT_.out HW_.out (by kernel_rfl)) (fun _ _ _ h => h) (Or.inl ⟨by rfl, ?_⟩) hHeld ?_ ?_
                                  rotate_left
                                  · rintro w' ⟨s0, s1⟩
                                    go_simp
                                    with_reducible rfl
                                  rotate_left
                                  · simp only [Act.put, List.setIfInBounds_toArray, List.set_cons_zero, List.set_cons_succ, i64_w, i32_w]
                                    rfl
                                  refine pure_ (i := 12) (N := some 82) (v := ?_) (a' := ?_) #[true, true, true, true, true, true, true, true, true, true, true, true, true, false, false, false, false] rfl rfl (any_of HT_.out (by kernel_rfl)) (fun _ _ _ h => h) (Or.inl ⟨by rfl, ?_⟩) ?_ ?_
                                  rotate_left
                                  · intro w'
                                    go_simp
                                    with_reducible rfl
                                  rotate_left
                                  · simp only [Act.put, List.setIfInBounds_toArray, List.set_cons_zero, List.set_cons_succ, i64_w, i32_w]
                                    rfl
                                  refine pure_ (i := 13) (N := some 83) (v := ?_) (a' := ?_) #[true, true, true, true, true, true, true, true, true, true, true, true, true, true, false, false, false] rfl rfl (any_of HT_.out (by kernel_rfl)) (fun _ _ _ h => h) (Or.inl ⟨by rfl, ?_⟩) ?_ ?_
                                  rotate_left
                                  · intro w'
                                    go_simp
                                    with_reducible rfl
                                  rotate_left
                                  · simp only [Act.put, List.setIfInBounds_toArray, List.set_cons_zero, List.set_cons_succ, i64_w, i32_w]
                                    rfl
                                  refine last_ (i := 14) (N := some 84) #[true, true, true, true, true, true, true, true, true, true, true, true, true, true, true, false, false] rfl rfl (one_of HT_.out (by kernel_rfl)) (by decide) (fun K hK => ?_)
                                  refine value_ (w1 := ?_) (v := ?_) (by rfl) rfl ?_ ?_
                                  rotate_left 2
                                  · go_simp
                                    constructor
                                    · rfl
                                    · rfl
                                  refine hK.out _ _ ?_
                                  clear hK K
                                  refine norm_ (a' := ?_) ?_ ?_
                                  rotate_left
                                  · show Act.put _ (some 84) _ = _
                                    simp only [Act.put, List.setIfInBounds_toArray, List.set_cons_zero, List.set_cons_succ, i64_w, i32_w]
                                    rfl
                                  refine last_ (i := 15) (N := some 85) #[true, true, true, true, true, true, true, true, true, true, true, true, true, true, true, true, false] rfl rfl (one_of HT_.out (by kernel_rfl)) (by decide) (fun K hK => ?_)
                                  refine Kd.R_append_step (Kd.int .u16) (w0 := w) w.heap.size (by rfl) (.tmp 70) (.tmp 84) 40 24 (.int .u16 0) 2 rfl Try.underlying40 info24 rfl (by decide) (by omega) u9 x9_3 (Go.bits .or .u16 (IntKind.u16.wrap ((IntKind.u16.wrap (rd t161 (ji37))) * 256)) (IntKind.u16.wrap (rd t161 x10_3))) [.int .u16 (Go.bits .or .u16 (IntKind.u16.wrap ((IntKind.u16.wrap (rd t161 (ji37))) * 256)) (IntKind.u16.wrap (rd t161 x10_3)))] (fun _ => True) (fun _ => False) rfl rfl ?aP (fun _ hk => hk.elim) ?aF ?aO ?aB ?aS ?aL ?_
                                  (case aP => exact rfl)
                                  (case aB => exact (by repeat (first | (with_reducible first | exact HB.out | apply below_alloc | apply pw_below_drewN | apply below_drew1) | exact HB.out)))
                                  (case aF => exact (fun _ _ => trivial))
                                  (case aO => exact (by (with_reducible repeat (first | apply Kd.R_alloc | apply Kd.R_drewN | apply Kd.R_drew)); exact HO_9.out))
                                  (case aS => exact (below_size (by repeat (first | (with_reducible first | exact HB.out | apply below_alloc | apply pw_below_drewN | apply below_drew1) | exact HB.out))))
                                  (case aL => have := LMc41.out; omega)
                                  intro v171 w44 ho hb hg hat
                                  rw [← Ny170.out] at ho
                                  have n0_ := Aside0.mk (Kd.R_over' (by (with_reducible repeat (first | apply Kd.R_alloc | apply Kd.R_drewN | apply Kd.R_drew)); exact HO_6.out) (Kd.R_typed (by (with_reducible repeat (first | apply Kd.R_alloc | apply Kd.R_drewN | apply Kd.R_drew)); exact HO_9.out)) (by decide) hg)
                                  have n1_ := Aside0.mk (hb)
                                  have n2_ := Aside0.mk (ho)
                                  clear HO_6
                                  clear HB
                                  clear HO_9
                                  have HO_6 := n0_
                                  have HB := n1_
                                  have HO172 := n2_
                                  clear n0_ n1_ n2_
                                  clear ho hb hg hat
                                  refine hK.out _ _ ?_
                                  clear hK K
                                  refine norm_ (a' := ?_) ?_ ?_
                                  rotate_left
                                  · show Act.put _ (some 85) _ = _
                                    simp only [Act.put, List.setIfInBounds_toArray, List.set_cons_zero, List.set_cons_succ, i64_w, i32_w]
                                    rfl
                                  refine pure_ (i := 16) (N := some 9) (v := ?_) (a' := ?_) #[true, true, true, true, true, true, true, true, true, true, true, true, true, true, true, true, true] rfl rfl (any_of HT_.out (by kernel_rfl)) (fun _ _ _ h => h) (Or.inl ⟨by rfl, ?_⟩) ?_ ?_
                                  rotate_left
                                  · intro w'
                                    go_simp
                                    with_reducible rfl
                                  rotate_left
                                  · simp only [Act.put, List.setIfInBounds_toArray, List.set_cons_zero, List.set_cons_succ, i64_w, i32_w]
                                    rfl
                                  refine done_ (done_of HT_.out (by kernel_rfl)) ?_
                                  try go_wp2
                                  go_roundg k3
                                  case measure => have := HJ2.out; have := HJ20.out; have := HK3.out; omega
                                  case rel => exact ⟨(y170), (wrap64 (x10_3 + 2)), (by first | rfl | (simp; done) | (simp [*]; done)), H', ⟨by have := HJ2.out; have := HJ20.out; have := HK3.out; omega⟩, ⟨by (with_reducible repeat (first | apply Kd.R_alloc | apply Kd.R_drewN | apply Kd.R_drew)); exact HO_6.out⟩, ⟨by (with_reducible repeat (first | apply Kd.R_alloc | apply Kd.R_drewN | apply Kd.R_drew)); exact HO172.out⟩, ⟨by repeat (first | (with_reducible first | exact HB.out | apply below_alloc | apply pw_below_drewN | apply below_drew1) | exact HB.out)⟩⟩
                                · rw [if_neg c41] at H
                                  exact absurd H (by simp)
                              · rw [if_neg c40] at H
                                exact absurd H (by simp)
                            · rw [if_neg c39] at H
                              exact absurd H (by simp)
                          · rw [if_neg c38] at H
                            exact absurd H (by simp)
                        · rw [if_neg c36] at H
                          have c36b0 : decide (x10_3 < (t161.length : Int)) = false := decide_eq_false c36
                          clear c36
                          simp only [Option.some.injEq, Prod.mk.injEq] at H
                          obtain ⟨rfl, rfl, rfl⟩ := H
                          obtain ⟨Ao45, co45, eo45⟩ := Kd.R_slice HO_6.out
                          subst eo45
                          go_wp2
                          go_ret3
                          exact ⟨_, by first | rfl | (simp [errW_none, errW_some] <;> rfl) | (simp [*, errW_none, errW_some] <;> rfl), by (with_reducible repeat (first | apply Kd.R_alloc | apply Kd.R_drewN | apply Kd.R_drew)); exact HO_9.out, by repeat (first | (with_reducible first | exact HB.out | apply below_alloc | apply pw_below_drewN | apply below_drew1) | exact HB.out)⟩
            · rw [if_neg c17] at H
              exact absurd H (by simp)
          · rw [if_neg c16] at H
            exact absurd H (by simp)
        · rw [if_neg c15] at H
          exact absurd H (by simp)

/-! ### coamingref06_Width: function 38 -/
def coamingref06_Width.f (a0 : Int) : Option (Int) := if a0 = 1 then (some a0) else (if a0 = 2 then (some a0) else (if a0 = 4 then (some a0) else (some 8)))
set_option maxHeartbeats 8000000 in
set_option maxRecDepth 100000 in
theorem coamingref06_Width.calls (a0 : Int) (r : Int) (w : World) (h : coamingref06_Width.f a0 = some r) :
    Calls Try.prog 38 #[.int .i64 a0] w fun e w' => e = .returned (.int .i64 r) ∧ Drawn0 w w' := by
  have H : (if a0 = 1 then (some a0) else (if a0 = 2 then (some a0) else (if a0 = 4 then (some a0) else (some 8)))) = some r := h
  clear h
  by_cases c2 : a0 = 1
  · rw [if_pos c2] at H
    have c2b0 : (a0 == 1) = true := beq_iff_eq.mpr c2
    have c2b1 : (a0 != 1) = false := bne_eq_false_iff_eq.mpr c2
    clear c2
    obtain rfl := Option.some.inj H
    go_enter Try.func38, Try.ntmps38
    go_wp2
    go_ret
    exact ⟨by first | rfl | (simp; done) | (simp [*]; done), by repeat (first | exact Drawn0.refl _ | apply Drawn0.step)⟩
  · rw [if_neg c2] at H
    have c2b0 : (a0 == 1) = false := beq_eq_false_iff_ne.mpr c2
    have c2b1 : (a0 != 1) = true := bne_iff_ne.mpr c2
    by_cases c3 : a0 = 2
    · rw [if_pos c3] at H
      have c3b0 : (a0 == 2) = true := beq_iff_eq.mpr c3
      have c3b1 : (a0 != 2) = false := bne_eq_false_iff_eq.mpr c3
      clear c3
      obtain rfl := Option.some.inj H
      go_enter Try.func38, Try.ntmps38
      go_wp2
      go_ret
      exact ⟨by first | rfl | (simp; done) | (simp [*]; done), by repeat (first | exact Drawn0.refl _ | apply Drawn0.step)⟩
    · rw [if_neg c3] at H
      have c3b0 : (a0 == 2) = false := beq_eq_false_iff_ne.mpr c3
      have c3b1 : (a0 != 2) = true := bne_iff_ne.mpr c3
      by_cases c4 : a0 = 4
      · rw [if_pos c4] at H
        have c4b0 : (a0 == 4) = true := beq_iff_eq.mpr c4
        have c4b1 : (a0 != 4) = false := bne_eq_false_iff_eq.mpr c4
        clear c4
        obtain rfl := Option.some.inj H
        go_enter Try.func38, Try.ntmps38
        go_wp2
        go_ret
        exact ⟨by first | rfl | (simp; done) | (simp [*]; done), by repeat (first | exact Drawn0.refl _ | apply Drawn0.step)⟩
      · rw [if_neg c4] at H
        have c4b0 : (a0 == 4) = false := beq_eq_false_iff_ne.mpr c4
        have c4b1 : (a0 != 4) = true := bne_iff_ne.mpr c4
        obtain rfl := Option.some.inj H
        go_enter Try.func38, Try.ntmps38
        go_wp2
        go_ret
        exact ⟨by first | rfl | (simp; done) | (simp [*]; done), by repeat (first | exact Drawn0.refl _ | apply Drawn0.step)⟩

end Go.Proofs.Ytkpanpekoiadoaa.PBase
