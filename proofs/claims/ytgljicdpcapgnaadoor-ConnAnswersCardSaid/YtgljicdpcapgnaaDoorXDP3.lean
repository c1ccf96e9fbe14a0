/- What the law's proof stands on, part 3: PBasex5, PBasex6, PBasex7 (laid together by wip/pack.py). -/
import Derived.Test.YtgljicdpcapgnaaDoorXDP2
namespace Go.Proofs.YtgljicdpcapgnaaDoor.PBase
open Go.RowKit Go.Proofs.YtgljicdpcapgnaaDoorW.PrintWords Go.Proofs.YtgljicdpcapgnaaDoorW.PrintLast Go.Proofs.YtgljicdpcapgnaaDoorW.PrintMore
attribute [local go_sem] max2_int min2_int max_two min_two max_three min_three max_four min_four   -- for this text's walks alone
set_option linter.unusedVariables false
set_option linter.unusedSimpArgs false
def slices_Index_uint16_uint16.l0 : Nat → List Int → Int → Int → Int → Option (Int)
 | 0, _, _, _, _ => none
 | k + 1, x0, x1, x7, x8 => if x8 < x7 then (if 0 ≤ x8 then (if x8 < (x0.length : Int) then (if x1 = (rd x0 x8) then (some x8) else (slices_Index_uint16_uint16.l0 k x0 x1 x7 (wrap64 (x8 + 1)))) else (none)) else (none)) else (some (-1))
def slices_Index_uint16_uint16.f (k : Nat) (l0 : List Int) (a1 : Int) : Option (Int) := slices_Index_uint16_uint16.l0 k l0 a1 (l0.length : Int) 0
set_option maxHeartbeats 8000000 in
set_option maxRecDepth 100000 in
theorem slices_Index_uint16_uint16.calls (k : Nat) (A0 : Option Addr) (c0 : Nat) (l0 : List Int) (a1 : Int) (r : Int) (w : World) (hr0 : Kd.C (Kd.int .u16) w A0 l0.length l0) (hc0 : l0.length ≤ c0) (h : slices_Index_uint16_uint16.f k l0 a1 = some r) :
  Calls Tryd.prog 91 #[.slice A0 l0.length c0, .int .u16 a1] w fun e w' => e = .returned (.int .i64 r) ∧ Drawn0 w w' := by
 have HR0 := Aside0.mk hr0
 have HC0 := Aside0.mk hc0
 clear hr0 hc0
 have H : (slices_Index_uint16_uint16.l0 k l0 a1 (l0.length : Int) 0) = some r := h
 clear h
 have H' := Aside0.mk H
 clear H
 go_enter Tryd.func91, Tryd.ntmps91
 go_wp2
 go_loopg [8] k (fun kq v8 w' => ∃ (x8_1 : Int), v8 = .int .i64 x8_1 ∧ Aside0 (slices_Index_uint16_uint16.l0 kq l0 a1 (l0.length : Int) x8_1 = some r) ∧ Aside0 (kq ≤ k) ∧ Drawn0 w w')
 case atStart => exact ⟨(0), (by first | rfl | (simp; done) | (simp [*]; done)), H', ⟨Nat.le_refl _⟩, by repeat (first | exact Drawn0.refl _ | apply Drawn0.step)⟩
 case round =>
  clear H'
  try clear p2
  obtain ⟨x8_1, rfl, HA, HK1, ⟨m1, rfl⟩⟩ := hrel
  cases gk with
  | zero => exact absurd HA.out (by simp [slices_Index_uint16_uint16.l0])
  | succ k1 =>
   have H := HA.out
   clear HA
   simp only [slices_Index_uint16_uint16.l0] at H
   by_cases c3 : x8_1 < (l0.length : Int)
   ·rw [if_pos c3] at H
    have c3b0 : decide (x8_1 < (l0.length : Int)) = true := decide_eq_true c3
    clear c3
    by_cases c4 : 0 ≤ x8_1
    ·rw [if_pos c4] at H
     have c4b0 : decide (0 ≤ x8_1) = true := decide_eq_true c4
     clear c4
     by_cases c5 : x8_1 < (l0.length : Int)
     ·rw [if_pos c5] at H
      have c5b0 : decide (x8_1 < (l0.length : Int)) = true := decide_eq_true c5
      clear c5
      by_cases c6 : a1 = (rd l0 x8_1)
      ·rw [if_pos c6] at H
       have c6b0 : (a1 == (rd l0 x8_1)) = true := beq_iff_eq.mpr c6
       have c6b1 : (a1 != (rd l0 x8_1)) = false := bne_eq_false_iff_eq.mpr c6
       clear c6
       obtain rfl := Option.some.inj H
       have p229 : 0 ≤ (x8_1 : Int) := of_decide_eq_true (by first | (with_reducible assumption) | assumption)
       have q229 : x8_1 < (l0.length : Int) := of_decide_eq_true (by first | (with_reducible assumption) | assumption)
       obtain ⟨ad229, e229, hx229_0⟩ := Kd.at_int HR0.out x8_1 p229 q229
       cases e229
       replace p229 := eq_true p229
       replace q229 := eq_true q229
       go_wp2
       go_ret
       exact ⟨by first | rfl | (simp; done) | (simp [*]; done), by repeat (first | exact Drawn0.refl _ | apply Drawn0.step)⟩
      ·rw [if_neg c6] at H
       have c6b0 : (a1 == (rd l0 x8_1)) = false := beq_eq_false_iff_ne.mpr c6
       have c6b1 : (a1 != (rd l0 x8_1)) = true := bne_iff_ne.mpr c6
       have H' := Aside0.mk H
       clear H
       have p229 : 0 ≤ (x8_1 : Int) := of_decide_eq_true (by first | (with_reducible assumption) | assumption)
       have q229 : x8_1 < (l0.length : Int) := of_decide_eq_true (by first | (with_reducible assumption) | assumption)
       obtain ⟨ad229, e229, hx229_0⟩ := Kd.at_int HR0.out x8_1 p229 q229
       cases e229
       replace p229 := eq_true p229
       replace q229 := eq_true q229
       go_wp2
       go_roundg k1
       case measure => have := HK1.out; omega
       case rel => exact ⟨(wrap64 (x8_1 + 1)), (by first | rfl | (simp; done) | (simp [*]; done)), H', ⟨by have := HK1.out; omega⟩, by repeat (first | exact Drawn0.refl _ | apply Drawn0.step)⟩
     ·rw [if_neg c5] at H
      exact absurd H (by simp)
    ·rw [if_neg c4] at H
     exact absurd H (by simp)
   ·rw [if_neg c3] at H
    have c3b0 : decide (x8_1 < (l0.length : Int)) = false := decide_eq_false c3
    clear c3
    obtain rfl := Option.some.inj H
    go_wp2
    go_ret
    exact ⟨by first | rfl | (simp; done) | (simp [*]; done), by repeat (first | exact Drawn0.refl _ | apply Drawn0.step)⟩
def slices_Contains_uint16_uint16.f (k : Nat) (l0 : List Int) (a1 : Int) : Option (Bool) := (slices_Index_uint16_uint16.f k l0 a1).bind fun t230 => (some (decide (t230 ≥ 0)))
set_option maxHeartbeats 8000000 in
set_option maxRecDepth 100000 in
theorem slices_Contains_uint16_uint16.calls (k : Nat) (A0 : Option Addr) (c0 : Nat) (l0 : List Int) (a1 : Int) (r : Bool) (w : World) (hr0 : Kd.C (Kd.int .u16) w A0 l0.length l0) (hc0 : l0.length ≤ c0) (h : slices_Contains_uint16_uint16.f k l0 a1 = some r) :
  Calls Tryd.prog 85 #[.slice A0 l0.length c0, .int .u16 a1] w fun e w' => e = .returned (.bool r) ∧ Drawn0 w w' := by
 have HR0 := Aside0.mk hr0
 have HC0 := Aside0.mk hc0
 clear hr0 hc0
 have H : ((slices_Index_uint16_uint16.f k l0 a1).bind fun t230 => (some (decide (t230 ≥ 0)))) = some r := h
 clear h
 replace H := Option.bind_eq_some_iff.mp H
 obtain ⟨t230, A30, H⟩ := H
 replace H : (some (decide (t230 ≥ 0))) = some r := H
 have A3 := Aside0.mk A30
 clear A30
 obtain rfl := Option.some.inj H
 go_enter Tryd.func85, Tryd.ntmps85
 go_wp2_with (first | ((with_reducible refine gate_callee (f := 91) rfl ?_); refine goesL_ (some 7) rfl rfl Tryd.func91 (by kernel_rfl) rfl #[.slice A0 l0.length c0, .int .u16 a1] rfl (by (try simp only [List.map_toArray, List.map_cons, List.map_nil]); first | done | rfl | (simp only [List.length_drop, List.length_take]; rfl) | (simp only [List.length_drop, List.length_take]; (repeat rw [Nat.min_eq_left (by simp only [eq_iff_iff, iff_true] at *; omega)]); rfl)) ?_; (with_reducible refine (slices_Index_uint16_uint16.calls k _ _ l0 a1 t230 _ ?side1 ?side2 A3.out).mono ?_); (case side1 => repeat (first | exact HR0.out | (with_reducible refine Kd.C_alloc ?_ _) | (with_reducible refine Kd.C_drewN ?_ _) | (with_reducible refine Kd.C_drew ?_))); (case side2 => exact HC0.out); rintro e w' ⟨rfl, ⟨nd, rfl⟩⟩; refine ⟨_, rfl, ?_⟩))
 go_ret
 exact ⟨by first | rfl | (simp; done) | (simp [*]; done), by repeat (first | exact Drawn0.refl _ | apply Drawn0.step)⟩
def greet_Hello.f (k : Nat)  : Option (List Int) := (wire_Pack.f k (([8, 8, 2] : List Int)) (([5639144782019643715, 5280542401877725268, 3] : List Int))).bind fun t237 => (some t237)
set_option maxHeartbeats 8000000 in
set_option maxRecDepth 100000 in
theorem greet_Hello.calls (k : Nat)  (r : List Int) (w : World) (h : greet_Hello.f k  = some r) :
  Calls Tryd.prog 25 #[] w fun e w' => ∃ v0_ : Value, e = .returned (v0_) ∧ Kd.R (Kd.int .u8) 5 w' w.heap.size (fun _ => True) v0_ r ∧ Below w.heap.size w w' := by
 have HB := Aside0.mk (Below.refl w.heap.size w)
 have H : ((wire_Pack.f k (([8, 8, 2] : List Int)) (([5639144782019643715, 5280542401877725268, 3] : List Int))).bind fun t237 => (some t237)) = some r := h
 clear h
 obtain ⟨y231, hy231⟩ : ∃ y_ : List Int, y_ = (([8, 8, 2] : List Int)) := ⟨_, rfl⟩
 replace H : ((wire_Pack.f k y231 (([5639144782019643715, 5280542401877725268, 3] : List Int))).bind fun t237 => (some t237)) = some r := by first | (rw [hy231]; with_reducible exact H) | (have H2_ := (Option.bind_some _ _).symm.trans H; rw [hy231]; with_reducible exact H2_) | (have H2_ := (Option.bind_some _ _).symm.trans H; with_reducible exact H2_) | with_reducible exact H | (rw [hy231]; exact H) | exact H
 have Ny231 := Aside0.mk hy231
 clear hy231
 obtain ⟨y234, hy234⟩ : ∃ y_ : List Int, y_ = (([5639144782019643715, 5280542401877725268, 3] : List Int)) := ⟨_, rfl⟩
 replace H : ((wire_Pack.f k y231 y234).bind fun t237 => (some t237)) = some r := by first | (rw [hy234]; with_reducible exact H) | (have H2_ := (Option.bind_some _ _).symm.trans H; rw [hy234]; with_reducible exact H2_) | (have H2_ := (Option.bind_some _ _).symm.trans H; with_reducible exact H2_) | with_reducible exact H | (rw [hy234]; exact H) | exact H
 have Ny234 := Aside0.mk hy234
 clear hy234
 replace H := Option.bind_eq_some_iff.mp H
 obtain ⟨t237, A10, H⟩ := H
 replace H : (some t237) = some r := H
 have A1 := Aside0.mk A10
 clear A10
 obtain rfl := Option.some.inj H
 go_enter Tryd.func25, Tryd.ntmps25
 go_wp2_with (first | ((with_reducible refine gate_dst (N := 1) rfl ?_); refine Kd.R_lit (Kd.int .i64) _ 3 ?hg (N := 1) ?hd (xs := ([8, 8, 2] : List Int)) (inner := [.int .i64 8, .int .i64 8, .int .i64 2]) (ok := fun _ => True) (okp := fun _ => True) ?hr ?hp (fun _ hk => hk) trivial (Below.refl _ _) (Nat.le_refl _) (by simp) ?_; (case hd => rfl); (case hg => rfl); (case hr => first | (go_simp; done) | (go_simp; rfl) | (go_simp; simp only [IntKind.wrap_u32, Int.emod_add_emod, Int.add_emod_emod])); (case hp => exact (Reps.one (show Kd.M (Kd.int .i64) _ _ _ 8 [.int .i64 8] from rfl) (Reps.one (show Kd.M (Kd.int .i64) _ _ _ 8 [.int .i64 8] from rfl) (Reps.one (show Kd.M (Kd.int .i64) _ _ _ 2 [.int .i64 2] from rfl) (Reps.none _ _))))); intro v232 w2 ho3 hb hg_ hnew_; clear hg_ hnew_; (first | rw [← Ny231.out] at ho3 | (simp only [Int.reduceToNat] at ho3; rw [← Ny231.out] at ho3)); have n0_ := Aside0.mk (Kd.R_lower ho3 (below_size (by repeat (first | (with_reducible first | exact HB.out | apply below_alloc | apply pw_below_drewN | apply below_drew1) | exact HB.out)))); have n1_ := Aside0.mk (below_step (by repeat (first | (with_reducible first | exact HB.out | apply below_alloc | apply pw_below_drewN | apply below_drew1) | exact HB.out)) hb); clear HB; have HO233 := n0_; have HB := n1_; clear n0_ n1_; clear hb ho3) | ((with_reducible refine gate_dst (N := 2) rfl ?_); refine Kd.R_lit (Kd.int .u64) _ 42 ?hg (N := 2) ?hd (xs := ([5639144782019643715, 5280542401877725268, 3] : List Int)) (inner := [.int .u64 5639144782019643715, .int .u64 5280542401877725268, .int .u64 3]) (ok := fun _ => True) (okp := fun _ => True) ?hr ?hp (fun _ hk => hk) trivial (Below.refl _ _) (Nat.le_refl _) (by simp) ?_; (case hd => rfl); (case hg => rfl); (case hr => first | (go_simp; done) | (go_simp; rfl) | (go_simp; simp only [IntKind.wrap_u32, Int.emod_add_emod, Int.add_emod_emod])); (case hp => exact (Reps.one (show Kd.M (Kd.int .u64) _ _ _ 5639144782019643715 [.int .u64 5639144782019643715] from rfl) (Reps.one (show Kd.M (Kd.int .u64) _ _ _ 5280542401877725268 [.int .u64 5280542401877725268] from rfl) (Reps.one (show Kd.M (Kd.int .u64) _ _ _ 3 [.int .u64 3] from rfl) (Reps.none _ _))))); intro v235 w4 ho5 hb hg_ hnew_; clear hg_ hnew_; (first | rw [← Ny234.out] at ho5 | (simp only [Int.reduceToNat] at ho5; rw [← Ny234.out] at ho5)); have n0_ := Aside0.mk (Kd.R_below (by (with_reducible repeat (first | apply Kd.R_alloc | apply Kd.R_drewN | apply Kd.R_drew)); exact HO233.out) hb); have n1_ := Aside0.mk (Kd.R_lower ho5 (below_size (by repeat (first | (with_reducible first | exact HB.out | apply below_alloc | apply pw_below_drewN | apply below_drew1) | exact HB.out)))); have n2_ := Aside0.mk (below_step (by repeat (first | (with_reducible first | exact HB.out | apply below_alloc | apply pw_below_drewN | apply below_drew1) | exact HB.out)) hb); clear HO233; clear HB; have HO233 := n0_; have HO236 := n1_; have HB := n2_; clear n0_ n1_ n2_; clear hb ho5; obtain ⟨Ao6, co6, eo6⟩ := Kd.R_slice HO233.out; subst eo6; obtain ⟨Ao7, co7, eo7⟩ := Kd.R_slice HO236.out; subst eo7) | ((with_reducible refine gate_callee (f := 38) rfl ?_); refine goesL_ (some 3) rfl rfl Tryd.func38 (by kernel_rfl) rfl #[.slice Ao6 y231.length co6, .slice Ao7 y234.length co7] rfl (by (try simp only [List.map_toArray, List.map_cons, List.map_nil]); first | done | rfl | (simp only [List.length_drop, List.length_take]; rfl) | (simp only [List.length_drop, List.length_take]; (repeat rw [Nat.min_eq_left (by simp only [eq_iff_iff, iff_true] at *; omega)]); rfl)) ?_; (with_reducible refine (wire_Pack.calls k _ _ y231 _ _ y234 t237 _ ?side1 ?side2 ?side3 ?side4 A1.out).mono ?_); (case side1 => repeat (first | exact (Kd.R_reads' HO233.out).2.2 | (with_reducible refine Kd.C_alloc ?_ _) | (with_reducible refine Kd.C_drewN ?_ _) | (with_reducible refine Kd.C_drew ?_))); (case side2 => exact (Kd.R_reads' HO233.out).2.1); (case side3 => repeat (first | exact (Kd.R_reads' HO236.out).2.2 | (with_reducible refine Kd.C_alloc ?_ _) | (with_reducible refine Kd.C_drewN ?_ _) | (with_reducible refine Kd.C_drew ?_))); (case side4 => exact (Kd.R_reads' HO236.out).2.1); rintro e w8 ⟨v238, rfl, ho0, hb⟩; refine ⟨_, rfl, ?_⟩; have n0_ := Aside0.mk (Kd.R_below (by (with_reducible repeat (first | apply Kd.R_alloc | apply Kd.R_drewN | apply Kd.R_drew)); exact HO233.out) hb); have n1_ := Aside0.mk (Kd.R_below (by (with_reducible repeat (first | apply Kd.R_alloc | apply Kd.R_drewN | apply Kd.R_drew)); exact HO236.out) hb); have n2_ := Aside0.mk (Kd.R_lower ho0 (below_size (by repeat (first | (with_reducible first | exact HB.out | apply below_alloc | apply pw_below_drewN | apply below_drew1) | exact HB.out)))); have n3_ := Aside0.mk (below_step (by repeat (first | (with_reducible first | exact HB.out | apply below_alloc | apply pw_below_drewN | apply below_drew1) | exact HB.out)) hb); clear HO233; clear HO236; clear HB; have HO233 := n0_; have HO236 := n1_; have HO239 := n2_; have HB := n3_; clear n0_ n1_ n2_ n3_; (try clear hb); (try clear hb2); (try clear hk); (try clear hi); (try clear ho0)))
 go_ret
 exact ⟨_, by first | rfl | (simp [errW_none, errW_some] <;> rfl) | (simp [*, errW_none, errW_some] <;> rfl), by (with_reducible repeat (first | apply Kd.R_alloc | apply Kd.R_drewN | apply Kd.R_drew)); exact HO239.out, by repeat (first | (with_reducible first | exact HB.out | apply below_alloc | apply pw_below_drewN | apply below_drew1) | exact HB.out)⟩
def greet_Flags.f (l0 : List Int) : Option (Bool × Int × Int) := (wire_Take.f l0 (([4] : List Int))).bind fun bt243 => (if bt243.2.2 = true then (if 0 < (bt243.1.length : Int) then (if (rd bt243.1 0) = 1 then (some (((rd bt243.1 0) == 3), 4, 0)) else (if (rd bt243.1 0) = 3 then (some (((rd bt243.1 0) == 3), 4, 0)) else (some (false, 0, 72)))) else (none)) else (some (false, 0, 70)))
set_option maxHeartbeats 8000000 in
set_option maxRecDepth 100000 in
theorem greet_Flags.calls (A0 : Option Addr) (c0 : Nat) (l0 : List Int) (r1 : Bool) (r2 : Int) (r3 : Int) (w : World) (hr0 : Kd.C (Kd.int .u8) w A0 l0.length l0) (hc0 : l0.length ≤ c0) (h : greet_Flags.f l0 = some (r1, r2, r3)) :
  Calls Tryd.prog 53 #[.slice A0 l0.length c0] w fun e w' => e = .returned (.tuple #[.bool r1, .int .i64 r2, .int .u16 r3]) ∧ Below w.heap.size w w' := by
 have HR0 := Aside0.mk hr0
 have HC0 := Aside0.mk hc0
 clear hr0 hc0
 have HB := Aside0.mk (Below.refl w.heap.size w)
 have H : ((wire_Take.f l0 (([4] : List Int))).bind fun bt243 => (if bt243.2.2 = true then (if 0 < (bt243.1.length : Int) then (if (rd bt243.1 0) = 1 then (some (((rd bt243.1 0) == 3), 4, 0)) else (if (rd bt243.1 0) = 3 then (some (((rd bt243.1 0) == 3), 4, 0)) else (some (false, 0, 72)))) else (none)) else (some (false, 0, 70)))) = some (r1, r2, r3) := h
 clear h
 obtain ⟨y240, hy240⟩ : ∃ y_ : List Int, y_ = (([4] : List Int)) := ⟨_, rfl⟩
 replace H : ((wire_Take.f l0 y240).bind fun bt243 => (if bt243.2.2 = true then (if 0 < (bt243.1.length : Int) then (if (rd bt243.1 0) = 1 then (some (((rd bt243.1 0) == 3), 4, 0)) else (if (rd bt243.1 0) = 3 then (some (((rd bt243.1 0) == 3), 4, 0)) else (some (false, 0, 72)))) else (none)) else (some (false, 0, 70)))) = some (r1, r2, r3) := by first | (rw [hy240]; with_reducible exact H) | (have H2_ := (Option.bind_some _ _).symm.trans H; rw [hy240]; with_reducible exact H2_) | (have H2_ := (Option.bind_some _ _).symm.trans H; with_reducible exact H2_) | with_reducible exact H | (rw [hy240]; exact H) | exact H
 have Ny240 := Aside0.mk hy240
 clear hy240
 replace H := Option.bind_eq_some_iff.mp H
 obtain ⟨⟨t243, t244, t245⟩, A20, H⟩ := H
 replace H : (if t245 = true then (if 0 < (t243.length : Int) then (if (rd t243 0) = 1 then (some (((rd t243 0) == 3), 4, 0)) else (if (rd t243 0) = 3 then (some (((rd t243 0) == 3), 4, 0)) else (some (false, 0, 72)))) else (none)) else (some (false, 0, 70))) = some (r1, r2, r3) := H
 have A2 := Aside0.mk A20
 clear A20
 by_cases c3 : t245 = true
 ·subst c3
  have H1 : (if 0 < (t243.length : Int) then (if (rd t243 0) = 1 then (some (((rd t243 0) == 3), 4, 0)) else (if (rd t243 0) = 3 then (some (((rd t243 0) == 3), 4, 0)) else (some (false, 0, 72)))) else (none)) = some (r1, r2, r3) := by rw [if_pos rfl] at H; exact H
  clear H
  have H := H1
  clear H1
  by_cases c4 : 0 < (t243.length : Int)
  ·rw [if_pos c4] at H
   have c4b0 : decide (0 < (t243.length : Int)) = true := decide_eq_true c4
   have c4b1 : decide (0 < t243.length) = true := decide_eq_true (by omega)
   clear c4
   by_cases c5 : (rd t243 0) = 1
   ·rw [if_pos c5] at H
    have c5b0 : ((rd t243 0) == 1) = true := beq_iff_eq.mpr c5
    have c5b1 : ((rd t243 0) != 1) = false := bne_eq_false_iff_eq.mpr c5
    clear c5
    simp only [Option.some.injEq, Prod.mk.injEq] at H
    obtain ⟨rfl, rfl, rfl⟩ := H
    go_enter Tryd.func53, Tryd.ntmps53
    go_wp2_with (first | ((with_reducible refine gate_dst (N := 10) rfl ?_); refine Kd.R_lit (Kd.int .i64) _ 3 ?hg (N := 10) ?hd (xs := ([4] : List Int)) (inner := [.int .i64 4]) (ok := fun _ => True) (okp := fun _ => True) ?hr ?hp (fun _ hk => hk) trivial (Below.refl _ _) (Nat.le_refl _) (by simp) ?_; (case hd => rfl); (case hg => rfl); (case hr => first | (go_simp; done) | (go_simp; rfl) | (go_simp; simp only [IntKind.wrap_u32, Int.emod_add_emod, Int.add_emod_emod])); (case hp => exact (Reps.one (show Kd.M (Kd.int .i64) _ _ _ 4 [.int .i64 4] from rfl) (Reps.none _ _))); intro v241 w6 ho7 hb hg_ hnew_; clear hg_ hnew_; (first | rw [← Ny240.out] at ho7 | (simp only [Int.reduceToNat] at ho7; rw [← Ny240.out] at ho7)); have n0_ := Aside0.mk (Kd.R_lower ho7 (below_size (by repeat (first | (with_reducible first | exact HB.out | apply below_alloc | apply pw_below_drewN | apply below_drew1) | exact HB.out)))); have n1_ := Aside0.mk (below_step (by repeat (first | (with_reducible first | exact HB.out | apply below_alloc | apply pw_below_drewN | apply below_drew1) | exact HB.out)) hb); clear HB; have HO242 := n0_; have HB := n1_; clear n0_ n1_; clear hb ho7; obtain ⟨Ao8, co8, eo8⟩ := Kd.R_slice HO242.out; subst eo8) | ((with_reducible refine gate_callee (f := 65) rfl ?_); refine goesL_ (some 11) rfl rfl Tryd.func65 (by kernel_rfl) rfl #[.slice A0 l0.length c0, .slice Ao8 y240.length co8] rfl (by (try simp only [List.map_toArray, List.map_cons, List.map_nil]); first | done | rfl | (simp only [List.length_drop, List.length_take]; rfl) | (simp only [List.length_drop, List.length_take]; (repeat rw [Nat.min_eq_left (by simp only [eq_iff_iff, iff_true] at *; omega)]); rfl)) ?_; (with_reducible refine (wire_Take.calls _ _ l0 _ _ y240 t243 t244 true _ ?side1 ?side2 ?side3 ?side4 A2.out).mono ?_); (case side1 => repeat (first | exact (Kd.C_below HR0.out HB.out) | (with_reducible refine Kd.C_alloc ?_ _) | (with_reducible refine Kd.C_drewN ?_ _) | (with_reducible refine Kd.C_drew ?_))); (case side2 => exact HC0.out); (case side3 => repeat (first | exact (Kd.R_reads' HO242.out).2.2 | (with_reducible refine Kd.C_alloc ?_ _) | (with_reducible refine Kd.C_drewN ?_ _) | (with_reducible refine Kd.C_drew ?_))); (case side4 => exact (Kd.R_reads' HO242.out).2.1); rintro e w9 ⟨v246, v248, rfl, ho0, ho1, hb⟩; refine ⟨_, rfl, ?_⟩; have n0_ := Aside0.mk (Kd.R_below (by (with_reducible repeat (first | apply Kd.R_alloc | apply Kd.R_drewN | apply Kd.R_drew)); exact HO242.out) hb); have n1_ := Aside0.mk (Kd.R_lower ho0 (below_size (by repeat (first | (with_reducible first | exact HB.out | apply below_alloc | apply pw_below_drewN | apply below_drew1) | exact HB.out)))); have n2_ := Aside0.mk (Kd.R_lower ho1 (below_size (by repeat (first | (with_reducible first | exact HB.out | apply below_alloc | apply pw_below_drewN | apply below_drew1) | exact HB.out)))); have n3_ := Aside0.mk (below_step (by repeat (first | (with_reducible first | exact HB.out | apply below_alloc | apply pw_below_drewN | apply below_drew1) | exact HB.out)) hb); clear HO242; clear HB; have HO242 := n0_; have HO247 := n1_; have HO249 := n2_; have HB := n3_; clear n0_ n1_ n2_ n3_; (try clear hb); (try clear hb2); (try clear hk); (try clear hi); (try clear ho0); (try clear ho1); obtain ⟨Ao10, co10, eo10⟩ := Kd.R_slice HO247.out; subst eo10; have p250 : 0 ≤ (0 : Int) := (by omega); have q250 : 0 < (t243.length : Int) := of_decide_eq_true (by first | (with_reducible assumption) | assumption); obtain ⟨ad250, e250, hx250_0⟩ := Kd.at_int (Kd.R_reads' HO247.out).2.2 0 p250 q250; cases e250; have qi250 : (0 < t243.length) = True := eq_true (by omega); (try rw [show ((0 : Int)).toNat = 0 from rfl] at hx250_0); (try rw [Addr.add_zero'] at hx250_0); replace p250 := eq_true p250; replace q250 := eq_true q250; have p251 : 0 ≤ (0 : Int) := (by omega); have q251 : 0 < (t243.length : Int) := of_decide_eq_true (by first | (with_reducible assumption) | assumption); obtain ⟨ad251, e251, hx251_0⟩ := Kd.at_int (Kd.R_reads' HO247.out).2.2 0 p251 q251; obtain rfl : ad250 = ad251 := (by injection e251); have qi251 : (0 < t243.length) = True := eq_true (by omega); (try rw [show ((0 : Int)).toNat = 0 from rfl] at hx251_0); (try rw [Addr.add_zero'] at hx251_0); replace p251 := eq_true p251; replace q251 := eq_true q251))
    go_ret3
    exact ⟨by first | rfl | (simp [errW_none, errW_some] <;> rfl) | (simp [*, errW_none, errW_some] <;> rfl), by repeat (first | (with_reducible first | exact HB.out | apply below_alloc | apply pw_below_drewN | apply below_drew1) | exact HB.out)⟩
   ·rw [if_neg c5] at H
    have c5b0 : ((rd t243 0) == 1) = false := beq_eq_false_iff_ne.mpr c5
    have c5b1 : ((rd t243 0) != 1) = true := bne_iff_ne.mpr c5
    by_cases c11 : (rd t243 0) = 3
    ·rw [if_pos c11] at H
     have c11b0 : ((rd t243 0) == 3) = true := beq_iff_eq.mpr c11
     have c11b1 : ((rd t243 0) != 3) = false := bne_eq_false_iff_eq.mpr c11
     clear c11
     simp only [Option.some.injEq, Prod.mk.injEq] at H
     obtain ⟨rfl, rfl, rfl⟩ := H
     go_enter Tryd.func53, Tryd.ntmps53
     go_wp2_with (first | ((with_reducible refine gate_dst (N := 10) rfl ?_); refine Kd.R_lit (Kd.int .i64) _ 3 ?hg (N := 10) ?hd (xs := ([4] : List Int)) (inner := [.int .i64 4]) (ok := fun _ => True) (okp := fun _ => True) ?hr ?hp (fun _ hk => hk) trivial (Below.refl _ _) (Nat.le_refl _) (by simp) ?_; (case hd => rfl); (case hg => rfl); (case hr => first | (go_simp; done) | (go_simp; rfl) | (go_simp; simp only [IntKind.wrap_u32, Int.emod_add_emod, Int.add_emod_emod])); (case hp => exact (Reps.one (show Kd.M (Kd.int .i64) _ _ _ 4 [.int .i64 4] from rfl) (Reps.none _ _))); intro v241 w12 ho13 hb hg_ hnew_; clear hg_ hnew_; (first | rw [← Ny240.out] at ho13 | (simp only [Int.reduceToNat] at ho13; rw [← Ny240.out] at ho13)); have n0_ := Aside0.mk (Kd.R_lower ho13 (below_size (by repeat (first | (with_reducible first | exact HB.out | apply below_alloc | apply pw_below_drewN | apply below_drew1) | exact HB.out)))); have n1_ := Aside0.mk (below_step (by repeat (first | (with_reducible first | exact HB.out | apply below_alloc | apply pw_below_drewN | apply below_drew1) | exact HB.out)) hb); clear HB; have HO242 := n0_; have HB := n1_; clear n0_ n1_; clear hb ho13; obtain ⟨Ao14, co14, eo14⟩ := Kd.R_slice HO242.out; subst eo14) | ((with_reducible refine gate_callee (f := 65) rfl ?_); refine goesL_ (some 11) rfl rfl Tryd.func65 (by kernel_rfl) rfl #[.slice A0 l0.length c0, .slice Ao14 y240.length co14] rfl (by (try simp only [List.map_toArray, List.map_cons, List.map_nil]); first | done | rfl | (simp only [List.length_drop, List.length_take]; rfl) | (simp only [List.length_drop, List.length_take]; (repeat rw [Nat.min_eq_left (by simp only [eq_iff_iff, iff_true] at *; omega)]); rfl)) ?_; (with_reducible refine (wire_Take.calls _ _ l0 _ _ y240 t243 t244 true _ ?side1 ?side2 ?side3 ?side4 A2.out).mono ?_); (case side1 => repeat (first | exact (Kd.C_below HR0.out HB.out) | (with_reducible refine Kd.C_alloc ?_ _) | (with_reducible refine Kd.C_drewN ?_ _) | (with_reducible refine Kd.C_drew ?_))); (case side2 => exact HC0.out); (case side3 => repeat (first | exact (Kd.R_reads' HO242.out).2.2 | (with_reducible refine Kd.C_alloc ?_ _) | (with_reducible refine Kd.C_drewN ?_ _) | (with_reducible refine Kd.C_drew ?_))); (case side4 => exact (Kd.R_reads' HO242.out).2.1); rintro e w15 ⟨v246, v248, rfl, ho0, ho1, hb⟩; refine ⟨_, rfl, ?_⟩; have n0_ := Aside0.mk (Kd.R_below (by (with_reducible repeat (first | apply Kd.R_alloc | apply Kd.R_drewN | apply Kd.R_drew)); exact HO242.out) hb); have n1_ := Aside0.mk (Kd.R_lower ho0 (below_size (by repeat (first | (with_reducible first | exact HB.out | apply below_alloc | apply pw_below_drewN | apply below_drew1) | exact HB.out)))); have n2_ := Aside0.mk (Kd.R_lower ho1 (below_size (by repeat (first | (with_reducible first | exact HB.out | apply below_alloc | apply pw_below_drewN | apply below_drew1) | exact HB.out)))); have n3_ := Aside0.mk (below_step (by repeat (first | (with_reducible first | exact HB.out | apply below_alloc | apply pw_below_drewN | apply below_drew1) | exact HB.out)) hb); clear HO242; clear HB; have HO242 := n0_; have HO247 := n1_; have HO249 := n2_; have HB := n3_; clear n0_ n1_ n2_ n3_; (try clear hb); (try clear hb2); (try clear hk); (try clear hi); (try clear ho0); (try clear ho1); obtain ⟨Ao16, co16, eo16⟩ := Kd.R_slice HO247.out; subst eo16; have p250 : 0 ≤ (0 : Int) := (by omega); have q250 : 0 < (t243.length : Int) := of_decide_eq_true (by first | (with_reducible assumption) | assumption); obtain ⟨ad250, e250, hx250_0⟩ := Kd.at_int (Kd.R_reads' HO247.out).2.2 0 p250 q250; cases e250; have qi250 : (0 < t243.length) = True := eq_true (by omega); (try rw [show ((0 : Int)).toNat = 0 from rfl] at hx250_0); (try rw [Addr.add_zero'] at hx250_0); replace p250 := eq_true p250; replace q250 := eq_true q250; have p252 : 0 ≤ (0 : Int) := (by omega); have q252 : 0 < (t243.length : Int) := of_decide_eq_true (by first | (with_reducible assumption) | assumption); obtain ⟨ad252, e252, hx252_0⟩ := Kd.at_int (Kd.R_reads' HO247.out).2.2 0 p252 q252; obtain rfl : ad250 = ad252 := (by injection e252); have qi252 : (0 < t243.length) = True := eq_true (by omega); (try rw [show ((0 : Int)).toNat = 0 from rfl] at hx252_0); (try rw [Addr.add_zero'] at hx252_0); replace p252 := eq_true p252; replace q252 := eq_true q252; have p253 : 0 ≤ (0 : Int) := (by omega); have q253 : 0 < (t243.length : Int) := of_decide_eq_true (by first | (with_reducible assumption) | assumption); obtain ⟨ad253, e253, hx253_0⟩ := Kd.at_int (Kd.R_reads' HO247.out).2.2 0 p253 q253; obtain rfl : ad250 = ad253 := (by injection e253); have qi253 : (0 < t243.length) = True := eq_true (by omega); (try rw [show ((0 : Int)).toNat = 0 from rfl] at hx253_0); (try rw [Addr.add_zero'] at hx253_0); replace p253 := eq_true p253; replace q253 := eq_true q253))
     go_ret3
     exact ⟨by first | rfl | (simp [errW_none, errW_some] <;> rfl) | (simp [*, errW_none, errW_some] <;> rfl), by repeat (first | (with_reducible first | exact HB.out | apply below_alloc | apply pw_below_drewN | apply below_drew1) | exact HB.out)⟩
    ·rw [if_neg c11] at H
     have c11b0 : ((rd t243 0) == 3) = false := beq_eq_false_iff_ne.mpr c11
     have c11b1 : ((rd t243 0) != 3) = true := bne_iff_ne.mpr c11
     simp only [Option.some.injEq, Prod.mk.injEq] at H
     obtain ⟨rfl, rfl, rfl⟩ := H
     go_enter Tryd.func53, Tryd.ntmps53
     go_wp2_with (first | ((with_reducible refine gate_dst (N := 10) rfl ?_); refine Kd.R_lit (Kd.int .i64) _ 3 ?hg (N := 10) ?hd (xs := ([4] : List Int)) (inner := [.int .i64 4]) (ok := fun _ => True) (okp := fun _ => True) ?hr ?hp (fun _ hk => hk) trivial (Below.refl _ _) (Nat.le_refl _) (by simp) ?_; (case hd => rfl); (case hg => rfl); (case hr => first | (go_simp; done) | (go_simp; rfl) | (go_simp; simp only [IntKind.wrap_u32, Int.emod_add_emod, Int.add_emod_emod])); (case hp => exact (Reps.one (show Kd.M (Kd.int .i64) _ _ _ 4 [.int .i64 4] from rfl) (Reps.none _ _))); intro v241 w17 ho18 hb hg_ hnew_; clear hg_ hnew_; (first | rw [← Ny240.out] at ho18 | (simp only [Int.reduceToNat] at ho18; rw [← Ny240.out] at ho18)); have n0_ := Aside0.mk (Kd.R_lower ho18 (below_size (by repeat (first | (with_reducible first | exact HB.out | apply below_alloc | apply pw_below_drewN | apply below_drew1) | exact HB.out)))); have n1_ := Aside0.mk (below_step (by repeat (first | (with_reducible first | exact HB.out | apply below_alloc | apply pw_below_drewN | apply below_drew1) | exact HB.out)) hb); clear HB; have HO242 := n0_; have HB := n1_; clear n0_ n1_; clear hb ho18; obtain ⟨Ao19, co19, eo19⟩ := Kd.R_slice HO242.out; subst eo19) | ((with_reducible refine gate_callee (f := 65) rfl ?_); refine goesL_ (some 11) rfl rfl Tryd.func65 (by kernel_rfl) rfl #[.slice A0 l0.length c0, .slice Ao19 y240.length co19] rfl (by (try simp only [List.map_toArray, List.map_cons, List.map_nil]); first | done | rfl | (simp only [List.length_drop, List.length_take]; rfl) | (simp only [List.length_drop, List.length_take]; (repeat rw [Nat.min_eq_left (by simp only [eq_iff_iff, iff_true] at *; omega)]); rfl)) ?_; (with_reducible refine (wire_Take.calls _ _ l0 _ _ y240 t243 t244 true _ ?side1 ?side2 ?side3 ?side4 A2.out).mono ?_); (case side1 => repeat (first | exact (Kd.C_below HR0.out HB.out) | (with_reducible refine Kd.C_alloc ?_ _) | (with_reducible refine Kd.C_drewN ?_ _) | (with_reducible refine Kd.C_drew ?_))); (case side2 => exact HC0.out); (case side3 => repeat (first | exact (Kd.R_reads' HO242.out).2.2 | (with_reducible refine Kd.C_alloc ?_ _) | (with_reducible refine Kd.C_drewN ?_ _) | (with_reducible refine Kd.C_drew ?_))); (case side4 => exact (Kd.R_reads' HO242.out).2.1); rintro e w20 ⟨v246, v248, rfl, ho0, ho1, hb⟩; refine ⟨_, rfl, ?_⟩; have n0_ := Aside0.mk (Kd.R_below (by (with_reducible repeat (first | apply Kd.R_alloc | apply Kd.R_drewN | apply Kd.R_drew)); exact HO242.out) hb); have n1_ := Aside0.mk (Kd.R_lower ho0 (below_size (by repeat (first | (with_reducible first | exact HB.out | apply below_alloc | apply pw_below_drewN | apply below_drew1) | exact HB.out)))); have n2_ := Aside0.mk (Kd.R_lower ho1 (below_size (by repeat (first | (with_reducible first | exact HB.out | apply below_alloc | apply pw_below_drewN | apply below_drew1) | exact HB.out)))); have n3_ := Aside0.mk (below_step (by repeat (first | (with_reducible first | exact HB.out | apply below_alloc | apply pw_below_drewN | apply below_drew1) | exact HB.out)) hb); clear HO242; clear HB; have HO242 := n0_; have HO247 := n1_; have HO249 := n2_; have HB := n3_; clear n0_ n1_ n2_ n3_; (try clear hb); (try clear hb2); (try clear hk); (try clear hi); (try clear ho0); (try clear ho1); obtain ⟨Ao21, co21, eo21⟩ := Kd.R_slice HO247.out; subst eo21; have p250 : 0 ≤ (0 : Int) := (by omega); have q250 : 0 < (t243.length : Int) := of_decide_eq_true (by first | (with_reducible assumption) | assumption); obtain ⟨ad250, e250, hx250_0⟩ := Kd.at_int (Kd.R_reads' HO247.out).2.2 0 p250 q250; cases e250; have qi250 : (0 < t243.length) = True := eq_true (by omega); (try rw [show ((0 : Int)).toNat = 0 from rfl] at hx250_0); (try rw [Addr.add_zero'] at hx250_0); replace p250 := eq_true p250; replace q250 := eq_true q250; have p252 : 0 ≤ (0 : Int) := (by omega); have q252 : 0 < (t243.length : Int) := of_decide_eq_true (by first | (with_reducible assumption) | assumption); obtain ⟨ad252, e252, hx252_0⟩ := Kd.at_int (Kd.R_reads' HO247.out).2.2 0 p252 q252; obtain rfl : ad250 = ad252 := (by injection e252); have qi252 : (0 < t243.length) = True := eq_true (by omega); (try rw [show ((0 : Int)).toNat = 0 from rfl] at hx252_0); (try rw [Addr.add_zero'] at hx252_0); replace p252 := eq_true p252; replace q252 := eq_true q252))
     go_ret3
     exact ⟨by first | rfl | (simp [errW_none, errW_some] <;> rfl) | (simp [*, errW_none, errW_some] <;> rfl), by repeat (first | (with_reducible first | exact HB.out | apply below_alloc | apply pw_below_drewN | apply below_drew1) | exact HB.out)⟩
  ·rw [if_neg c4] at H
   exact absurd H (by simp)
 ·replace c3 := Bool.eq_false_iff.mpr c3
  subst c3
  have H1 : (some (false, 0, 70)) = some (r1, r2, r3) := by rw [if_neg (show ¬ (false = true) by decide)] at H; exact H
  clear H
  have H := H1
  clear H1
  simp only [Option.some.injEq, Prod.mk.injEq] at H
  obtain ⟨rfl, rfl, rfl⟩ := H
  go_enter Tryd.func53, Tryd.ntmps53
  go_wp2_with (first | ((with_reducible refine gate_dst (N := 10) rfl ?_); refine Kd.R_lit (Kd.int .i64) _ 3 ?hg (N := 10) ?hd (xs := ([4] : List Int)) (inner := [.int .i64 4]) (ok := fun _ => True) (okp := fun _ => True) ?hr ?hp (fun _ hk => hk) trivial (Below.refl _ _) (Nat.le_refl _) (by simp) ?_; (case hd => rfl); (case hg => rfl); (case hr => first | (go_simp; done) | (go_simp; rfl) | (go_simp; simp only [IntKind.wrap_u32, Int.emod_add_emod, Int.add_emod_emod])); (case hp => exact (Reps.one (show Kd.M (Kd.int .i64) _ _ _ 4 [.int .i64 4] from rfl) (Reps.none _ _))); intro v241 w22 ho23 hb hg_ hnew_; clear hg_ hnew_; (first | rw [← Ny240.out] at ho23 | (simp only [Int.reduceToNat] at ho23; rw [← Ny240.out] at ho23)); have n0_ := Aside0.mk (Kd.R_lower ho23 (below_size (by repeat (first | (with_reducible first | exact HB.out | apply below_alloc | apply pw_below_drewN | apply below_drew1) | exact HB.out)))); have n1_ := Aside0.mk (below_step (by repeat (first | (with_reducible first | exact HB.out | apply below_alloc | apply pw_below_drewN | apply below_drew1) | exact HB.out)) hb); clear HB; have HO242 := n0_; have HB := n1_; clear n0_ n1_; clear hb ho23; obtain ⟨Ao24, co24, eo24⟩ := Kd.R_slice HO242.out; subst eo24) | ((with_reducible refine gate_callee (f := 65) rfl ?_); refine goesL_ (some 11) rfl rfl Tryd.func65 (by kernel_rfl) rfl #[.slice A0 l0.length c0, .slice Ao24 y240.length co24] rfl (by (try simp only [List.map_toArray, List.map_cons, List.map_nil]); first | done | rfl | (simp only [List.length_drop, List.length_take]; rfl) | (simp only [List.length_drop, List.length_take]; (repeat rw [Nat.min_eq_left (by simp only [eq_iff_iff, iff_true] at *; omega)]); rfl)) ?_; (with_reducible refine (wire_Take.calls _ _ l0 _ _ y240 t243 t244 false _ ?side1 ?side2 ?side3 ?side4 A2.out).mono ?_); (case side1 => repeat (first | exact (Kd.C_below HR0.out HB.out) | (with_reducible refine Kd.C_alloc ?_ _) | (with_reducible refine Kd.C_drewN ?_ _) | (with_reducible refine Kd.C_drew ?_))); (case side2 => exact HC0.out); (case side3 => repeat (first | exact (Kd.R_reads' HO242.out).2.2 | (with_reducible refine Kd.C_alloc ?_ _) | (with_reducible refine Kd.C_drewN ?_ _) | (with_reducible refine Kd.C_drew ?_))); (case side4 => exact (Kd.R_reads' HO242.out).2.1); rintro e w25 ⟨v246, v248, rfl, ho0, ho1, hb⟩; refine ⟨_, rfl, ?_⟩; have n0_ := Aside0.mk (Kd.R_below (by (with_reducible repeat (first | apply Kd.R_alloc | apply Kd.R_drewN | apply Kd.R_drew)); exact HO242.out) hb); have n1_ := Aside0.mk (Kd.R_lower ho0 (below_size (by repeat (first | (with_reducible first | exact HB.out | apply below_alloc | apply pw_below_drewN | apply below_drew1) | exact HB.out)))); have n2_ := Aside0.mk (Kd.R_lower ho1 (below_size (by repeat (first | (with_reducible first | exact HB.out | apply below_alloc | apply pw_below_drewN | apply below_drew1) | exact HB.out)))); have n3_ := Aside0.mk (below_step (by repeat (first | (with_reducible first | exact HB.out | apply below_alloc | apply pw_below_drewN | apply below_drew1) | exact HB.out)) hb); clear HO242; clear HB; have HO242 := n0_; have HO247 := n1_; have HO249 := n2_; have HB := n3_; clear n0_ n1_ n2_ n3_; (try clear hb); (try clear hb2); (try clear hk); (try clear hi); (try clear ho0); (try clear ho1)))
  go_ret3
  exact ⟨by first | rfl | (simp [errW_none, errW_some] <;> rfl) | (simp [*, errW_none, errW_some] <;> rfl), by repeat (first | (with_reducible first | exact HB.out | apply below_alloc | apply pw_below_drewN | apply below_drew1) | exact HB.out)⟩
def greet_Next.f (l0 : List Int) : Option (Int × List Int × Int × Int) := if 0 ≤ (mn (l0.length : Int) 16) then (if (mn (l0.length : Int) 16) ≤ (l0.length : Int) then ((wire_Take.f (l0.take ((mn (l0.length : Int) 16) : Int).toNat) (([8, 4, 4] : List Int))).bind fun bt259 => (if bt259.2.2 = true then (if 0 < (bt259.1.length : Int) then (if (rd bt259.1 0) = 5280542401877725268 then (if 2 < (bt259.1.length : Int) then (if (rd bt259.1 2) > 1024 then (some (0, ([] : List Int), 0, 73)) else (if (wrap64 (16 + (wrap64 (rd bt259.1 2)))) > (l0.length : Int) then (some (0, ([] : List Int), 0, 70)) else (if 1 < (bt259.1.length : Int) then (if 16 ≤ (wrap64 (16 + (wrap64 (rd bt259.1 2)))) then (if (wrap64 (16 + (wrap64 (rd bt259.1 2)))) ≤ (l0.length : Int) then ((clone_.f ((l0.take ((wrap64 (16 + (wrap64 (rd bt259.1 2)))) : Int).toNat).drop 16)).bind fun t271 => (some ((rd bt259.1 1) % 4294967296, t271, wrap64 (16 + (wrap64 (rd bt259.1 2))), 0))) else (none)) else (none)) else (none)))) else (none)) else (some (0, ([] : List Int), 0, 71))) else (none)) else (some (0, ([] : List Int), 0, 70)))) else (none)) else (none)
def greet_Next.T11 : Bool × List (List Nat × List Nat) := (true, [([], []), ([0], [0]), ([1], [1]), ([2], [2]), ([], []), ([], []), ([4, 5], [4, 5]), ([6], [6]), ([3, 7], [3, 7]), ([], []), ([8, 7, 0, 1, 2, 3, 4, 5, 6, 7, 8], [8]), ([9, 10, 0, 1, 2, 3, 4, 5, 6, 7, 8, 9, 10], [9]), ([11, 0, 1, 2, 3, 4, 5, 6, 7, 8, 9, 10, 11], [])])
def greet_Next.B11 : List Nat := [0, 1, 3, 7, 0, 0, 48, 112, 255, 0, 511, 2047, 4095]
theorem greet_Next.tab11 : rtab .any (opsOf Tryd.f54 11) = greet_Next.T11 := by kernel_rfl
theorem greet_Next.bits11 : waitsOk greet_Next.T11.2 greet_Next.B11 = true := by kernel_rfl
set_option maxHeartbeats 8000000 in
set_option maxRecDepth 100000 in
theorem greet_Next.calls (A0 : Option Addr) (c0 : Nat) (l0 : List Int) (r1 : Int) (r2 : List Int) (r3 : Int) (r4 : Int) (w : World) (hr0 : Kd.C (Kd.int .u8) w A0 l0.length l0) (hc0 : l0.length ≤ c0) (h : greet_Next.f l0 = some (r1, r2, r3, r4)) :
  Calls Tryd.prog 54 #[.slice A0 l0.length c0] w fun e w' => ∃ v1_ : Value, e = .returned (.tuple #[.agg #[.int .u32 r1, v1_], .int .i64 r3, .int .u16 r4]) ∧ Kd.R (Kd.int .u8) 5 w' w.heap.size (fun _ => True) v1_ r2 ∧ Below w.heap.size w w' := by
 have hu113 := Tryd.underlying113
 have HR0 := Aside0.mk hr0
 have HC0 := Aside0.mk hc0
 clear hr0 hc0
 have HB := Aside0.mk (Below.refl w.heap.size w)
 have H : (if 0 ≤ (mn (l0.length : Int) 16) then (if (mn (l0.length : Int) 16) ≤ (l0.length : Int) then ((wire_Take.f (l0.take ((mn (l0.length : Int) 16) : Int).toNat) (([8, 4, 4] : List Int))).bind fun bt259 => (if bt259.2.2 = true then (if 0 < (bt259.1.length : Int) then (if (rd bt259.1 0) = 5280542401877725268 then (if 2 < (bt259.1.length : Int) then (if (rd bt259.1 2) > 1024 then (some (0, ([] : List Int), 0, 73)) else (if (wrap64 (16 + (wrap64 (rd bt259.1 2)))) > (l0.length : Int) then (some (0, ([] : List Int), 0, 70)) else (if 1 < (bt259.1.length : Int) then (if 16 ≤ (wrap64 (16 + (wrap64 (rd bt259.1 2)))) then (if (wrap64 (16 + (wrap64 (rd bt259.1 2)))) ≤ (l0.length : Int) then ((clone_.f ((l0.take ((wrap64 (16 + (wrap64 (rd bt259.1 2)))) : Int).toNat).drop 16)).bind fun t271 => (some ((rd bt259.1 1) % 4294967296, t271, wrap64 (16 + (wrap64 (rd bt259.1 2))), 0))) else (none)) else (none)) else (none)))) else (none)) else (some (0, ([] : List Int), 0, 71))) else (none)) else (some (0, ([] : List Int), 0, 70)))) else (none)) else (none)) = some (r1, r2, r3, r4) := h
 clear h
 obtain ⟨ji2, hji2⟩ : ∃ j_ : Int, (mn (l0.length : Int) 16) = j_ := ⟨_, rfl⟩
 replace H : (if 0 ≤ (ji2) then (if (ji2) ≤ (l0.length : Int) then ((wire_Take.f (l0.take ((ji2) : Int).toNat) (([8, 4, 4] : List Int))).bind fun bt259 => (if bt259.2.2 = true then (if 0 < (bt259.1.length : Int) then (if (rd bt259.1 0) = 5280542401877725268 then (if 2 < (bt259.1.length : Int) then (if (rd bt259.1 2) > 1024 then (some (0, ([] : List Int), 0, 73)) else (if (wrap64 (16 + (wrap64 (rd bt259.1 2)))) > (l0.length : Int) then (some (0, ([] : List Int), 0, 70)) else (if 1 < (bt259.1.length : Int) then (if 16 ≤ (wrap64 (16 + (wrap64 (rd bt259.1 2)))) then (if (wrap64 (16 + (wrap64 (rd bt259.1 2)))) ≤ (l0.length : Int) then ((clone_.f ((l0.take ((wrap64 (16 + (wrap64 (rd bt259.1 2)))) : Int).toNat).drop 16)).bind fun t271 => (some ((rd bt259.1 1) % 4294967296, t271, wrap64 (16 + (wrap64 (rd bt259.1 2))), 0))) else (none)) else (none)) else (none)))) else (none)) else (some (0, ([] : List Int), 0, 71))) else (none)) else (some (0, ([] : List Int), 0, 70)))) else (none)) else (none)) = some (r1, r2, r3, r4) := by first | (rw [hji2] at H; exact H) | (simp only [hji2] at H ⊢; exact H)
 (try (have hji2h : ji2 ≤ 16 := by (rw [← hji2]; unfold mn; (repeat' split) <;> omega)))
 (try (have hji2g : ji2 ≤ 64 := by omega))
 (try (have hji2l : 0 ≤ ji2 := by (rw [← hji2]; unfold mn; (repeat' split) <;> omega)))
 (try (have hji2m : 0 ≤ ji2 := by omega))
 have hji2_ : (if 16 < (l0.length : Int) then 16 else (l0.length : Int)) = ji2 := hji2
 by_cases c3 : 0 ≤ (ji2)
 ·rw [if_pos c3] at H
  have c3b0 := eq_true c3
  have c3b1 : decide (0 ≤ (ji2)) = true := decide_eq_true c3
  clear c3
  by_cases c4 : (ji2) ≤ (l0.length : Int)
  ·rw [if_pos c4] at H
   have c4b0 := eq_true c4
   have c4b1 : decide ((ji2) ≤ (l0.length : Int)) = true := decide_eq_true c4
   clear c4
   obtain ⟨y256, hy256⟩ : ∃ y_ : List Int, y_ = (([8, 4, 4] : List Int)) := ⟨_, rfl⟩
   replace H : ((wire_Take.f (l0.take ((ji2) : Int).toNat) y256).bind fun bt259 => (if bt259.2.2 = true then (if 0 < (bt259.1.length : Int) then (if (rd bt259.1 0) = 5280542401877725268 then (if 2 < (bt259.1.length : Int) then (if (rd bt259.1 2) > 1024 then (some (0, ([] : List Int), 0, 73)) else (if (wrap64 (16 + (wrap64 (rd bt259.1 2)))) > (l0.length : Int) then (some (0, ([] : List Int), 0, 70)) else (if 1 < (bt259.1.length : Int) then (if 16 ≤ (wrap64 (16 + (wrap64 (rd bt259.1 2)))) then (if (wrap64 (16 + (wrap64 (rd bt259.1 2)))) ≤ (l0.length : Int) then ((clone_.f ((l0.take ((wrap64 (16 + (wrap64 (rd bt259.1 2)))) : Int).toNat).drop 16)).bind fun t271 => (some ((rd bt259.1 1) % 4294967296, t271, wrap64 (16 + (wrap64 (rd bt259.1 2))), 0))) else (none)) else (none)) else (none)))) else (none)) else (some (0, ([] : List Int), 0, 71))) else (none)) else (some (0, ([] : List Int), 0, 70)))) = some (r1, r2, r3, r4) := by first | (rw [hy256]; with_reducible exact H) | (have H2_ := (Option.bind_some _ _).symm.trans H; rw [hy256]; with_reducible exact H2_) | (have H2_ := (Option.bind_some _ _).symm.trans H; with_reducible exact H2_) | with_reducible exact H | (rw [hy256]; exact H) | exact H
   have Ny256 := Aside0.mk hy256
   clear hy256
   replace H := Option.bind_eq_some_iff.mp H
   obtain ⟨⟨t259, t260, t261⟩, A50, H⟩ := H
   replace H : (if t261 = true then (if 0 < (t259.length : Int) then (if (rd t259 0) = 5280542401877725268 then (if 2 < (t259.length : Int) then (if (rd t259 2) > 1024 then (some (0, ([] : List Int), 0, 73)) else (if (wrap64 (16 + (wrap64 (rd t259 2)))) > (l0.length : Int) then (some (0, ([] : List Int), 0, 70)) else (if 1 < (t259.length : Int) then (if 16 ≤ (wrap64 (16 + (wrap64 (rd t259 2)))) then (if (wrap64 (16 + (wrap64 (rd t259 2)))) ≤ (l0.length : Int) then ((clone_.f ((l0.take ((wrap64 (16 + (wrap64 (rd t259 2)))) : Int).toNat).drop 16)).bind fun t271 => (some ((rd t259 1) % 4294967296, t271, wrap64 (16 + (wrap64 (rd t259 2))), 0))) else (none)) else (none)) else (none)))) else (none)) else (some (0, ([] : List Int), 0, 71))) else (none)) else (some (0, ([] : List Int), 0, 70))) = some (r1, r2, r3, r4) := H
   have A5 := Aside0.mk A50
   clear A50
   by_cases c6 : t261 = true
   ·subst c6
    have H1 : (if 0 < (t259.length : Int) then (if (rd t259 0) = 5280542401877725268 then (if 2 < (t259.length : Int) then (if (rd t259 2) > 1024 then (some (0, ([] : List Int), 0, 73)) else (if (wrap64 (16 + (wrap64 (rd t259 2)))) > (l0.length : Int) then (some (0, ([] : List Int), 0, 70)) else (if 1 < (t259.length : Int) then (if 16 ≤ (wrap64 (16 + (wrap64 (rd t259 2)))) then (if (wrap64 (16 + (wrap64 (rd t259 2)))) ≤ (l0.length : Int) then ((clone_.f ((l0.take ((wrap64 (16 + (wrap64 (rd t259 2)))) : Int).toNat).drop 16)).bind fun t271 => (some ((rd t259 1) % 4294967296, t271, wrap64 (16 + (wrap64 (rd t259 2))), 0))) else (none)) else (none)) else (none)))) else (none)) else (some (0, ([] : List Int), 0, 71))) else (none)) = some (r1, r2, r3, r4) := by rw [if_pos rfl] at H; exact H
    clear H
    have H := H1
    clear H1
    by_cases c7 : 0 < (t259.length : Int)
    ·rw [if_pos c7] at H
     have c7b0 : decide (0 < (t259.length : Int)) = true := decide_eq_true c7
     have c7b1 : decide (0 < t259.length) = true := decide_eq_true (by omega)
     clear c7
     by_cases c8 : (rd t259 0) = 5280542401877725268
     ·rw [if_pos c8] at H
      have c8b0 : ((rd t259 0) == 5280542401877725268) = true := beq_iff_eq.mpr c8
      have c8b1 : ((rd t259 0) != 5280542401877725268) = false := bne_eq_false_iff_eq.mpr c8
      clear c8
      by_cases c9 : 2 < (t259.length : Int)
      ·rw [if_pos c9] at H
       have c9b0 : decide (2 < (t259.length : Int)) = true := decide_eq_true c9
       have c9b1 : decide (2 < t259.length) = true := decide_eq_true (by omega)
       clear c9
       by_cases c10 : (rd t259 2) > 1024
       ·rw [if_pos c10] at H
        have c10b0 : decide (1024 < (rd t259 2)) = true := decide_eq_true c10
        clear c10
        simp only [Option.some.injEq, Prod.mk.injEq] at H
        obtain ⟨rfl, rfl, rfl, rfl⟩ := H
        go_enter Tryd.func54, Tryd.ntmps54
        go_wp2_with (first | ((with_reducible refine gate_dst (N := 2) rfl ?_); refine box_event ?hg (N := 2) ?hd (cs := #[.int .u32 0, .slice none 0 0]) (t := 113) ?hr ?_; (case hd => rfl); (case hg => rfl); (case hr => first | (go_simp; done) | (go_simp; rfl) | (go_simp; simp only [IntKind.wrap_u32, Int.emod_add_emod, Int.add_emod_emod])); intro gb254 hg w11 hbox hb; have n0_ := Aside0.mk (below_step (by repeat (first | (with_reducible first | exact HB.out | apply below_alloc | apply pw_below_drewN | apply below_drew1) | exact HB.out)) hb); have n1_ := Aside0.mk (hbox); have n2_ := Aside0.mk ((by rw [hg]; exact (below_size (by repeat (first | (with_reducible first | exact HB.out | apply below_alloc | apply pw_below_drewN | apply below_drew1) | exact HB.out))) : w.heap.size ≤ gb254)); have n3_ := Aside0.mk ((by rw [hg]; exact (below_size (by repeat (first | (with_reducible first | exact HB.out | apply below_alloc | apply pw_below_drewN | apply below_drew1) | exact HB.out))) : w.heap.size ≤ gb254)); clear HB; have HB := n0_; have BK254 := n1_; have GW254 := n2_; have GE254 := n3_; clear n0_ n1_ n2_ n3_; clear hb hbox hg; obtain ⟨i012, hi012, _, hsz12, _⟩ := info_parts info5; obtain ⟨hcut12, hA12, hC12⟩ := print_take_of (P := Tryd.prog) (Value.int .u8) 0 23 5 .i64 Tryd.underlying23 hi012 hsz12 A0 c0 l0 (ji2) (of_decide_eq_true (by first | (with_reducible assumption) | assumption)) (of_decide_eq_true (by first | (with_reducible assumption) | assumption)) HC0.out; have HR255 := Aside0.mk (Kd.C_of_reads (h1 := fun _ => rfl) (hA12 _ (Kd.reads_of_C HR0.out))); have HC255 := Aside0.mk hC12; clear hA12 hC12 hi012 hsz12) | ((with_reducible refine gate_dst (N := 15) rfl ?_); refine Kd.R_lit (Kd.int .i64) _ 3 ?hg (N := 15) ?hd (xs := ([8, 4, 4] : List Int)) (inner := [.int .i64 8, .int .i64 4, .int .i64 4]) (ok := fun _ => True) (okp := fun _ => True) ?hr ?hp (fun _ hk => hk) trivial (Below.refl _ _) (Nat.le_refl _) (by simp) ?_; (case hd => rfl); (case hg => rfl); (case hr => first | (go_simp; done) | (go_simp; rfl) | (go_simp; simp only [IntKind.wrap_u32, Int.emod_add_emod, Int.add_emod_emod])); (case hp => exact (Reps.one (show Kd.M (Kd.int .i64) _ _ _ 8 [.int .i64 8] from rfl) (Reps.one (show Kd.M (Kd.int .i64) _ _ _ 4 [.int .i64 4] from rfl) (Reps.one (show Kd.M (Kd.int .i64) _ _ _ 4 [.int .i64 4] from rfl) (Reps.none _ _))))); intro v257 w13 ho14 hb hg_ hnew_; clear hg_ hnew_; (first | rw [← Ny256.out] at ho14 | (simp only [Int.reduceToNat] at ho14; rw [← Ny256.out] at ho14)); have n0_ := Aside0.mk (Kd.R_lower ho14 (below_size (by repeat (first | (with_reducible first | exact HB.out | apply below_alloc | apply pw_below_drewN | apply below_drew1 | refine below_set ?_ GE254.out) | exact HB.out)))); have n1_ := Aside0.mk (blk_below (g := gb254) (o := .cells #[.int .u32 0, .slice none 0 0] 113 (0, 0)) (by (with_reducible repeat (first | refine blk_drewN ?_ _ | refine blk_drew ?_ | refine blk_alloc ?_ _)); exact BK254.out) hb); have n2_ := Aside0.mk (below_step (by repeat (first | (with_reducible first | exact HB.out | apply below_alloc | apply pw_below_drewN | apply below_drew1 | refine below_set ?_ GE254.out) | exact HB.out)) hb); clear BK254; clear HB; have HO258 := n0_; have BK254 := n1_; have HB := n2_; clear n0_ n1_ n2_; clear hb ho14; obtain ⟨Ao15, co15, eo15⟩ := Kd.R_slice HO258.out; subst eo15) | ((with_reducible refine gate_callee (f := 65) rfl ?_); refine goesL_ (some 16) rfl rfl Tryd.func65 (by kernel_rfl) rfl #[.slice A0 (l0.take ((ji2) : Int).toNat).length c0, .slice Ao15 y256.length co15] rfl (by (try simp only [List.map_toArray, List.map_cons, List.map_nil]); first | done | (rw [show (l0.take ((ji2) : Int).toNat).length = (ji2).toNat from (by rw [List.length_take]; have h_ : ((ji2) : Int) ≤ (l0.length : Int) := of_decide_eq_true (by first | (with_reducible assumption) | assumption); omega)] <;> rfl) | (simp only [hji2]; rfl) | rfl | (simp only [List.length_drop, List.length_take]; rfl) | (simp only [List.length_drop, List.length_take]; (repeat rw [Nat.min_eq_left (by simp only [eq_iff_iff, iff_true] at *; omega)]); rfl)) ?_; (with_reducible refine (wire_Take.calls _ _ (l0.take ((ji2) : Int).toNat) _ _ y256 t259 t260 true _ ?side1 ?side2 ?side3 ?side4 A5.out).mono ?_); (case side1 => repeat (first | exact (Kd.C_below HR255.out HB.out) | (with_reducible refine Kd.C_alloc ?_ _) | (with_reducible refine Kd.C_drewN ?_ _) | (with_reducible refine Kd.C_drew ?_))); (case side2 => exact HC255.out); (case side3 => repeat (first | exact (Kd.R_reads' HO258.out).2.2 | (with_reducible refine Kd.C_alloc ?_ _) | (with_reducible refine Kd.C_drewN ?_ _) | (with_reducible refine Kd.C_drew ?_))); (case side4 => exact (Kd.R_reads' HO258.out).2.1); rintro e w16 ⟨v262, v264, rfl, ho0, ho1, hb⟩; refine ⟨_, rfl, ?_⟩; have n0_ := Aside0.mk (Kd.R_below (by (with_reducible repeat (first | apply Kd.R_alloc | apply Kd.R_drewN | apply Kd.R_drew)); exact HO258.out) hb); have n1_ := Aside0.mk (Kd.R_lower ho0 (below_size (by repeat (first | (with_reducible first | exact HB.out | apply below_alloc | apply pw_below_drewN | apply below_drew1 | refine below_set ?_ GE254.out) | exact HB.out)))); have n2_ := Aside0.mk (Kd.R_lower ho1 (below_size (by repeat (first | (with_reducible first | exact HB.out | apply below_alloc | apply pw_below_drewN | apply below_drew1 | refine below_set ?_ GE254.out) | exact HB.out)))); have n3_ := Aside0.mk (blk_below (g := gb254) (o := .cells #[.int .u32 0, .slice none 0 0] 113 (0, 0)) (by (with_reducible repeat (first | refine blk_drewN ?_ _ | refine blk_drew ?_ | refine blk_alloc ?_ _)); exact BK254.out) hb); have n4_ := Aside0.mk (below_step (by repeat (first | (with_reducible first | exact HB.out | apply below_alloc | apply pw_below_drewN | apply below_drew1 | refine below_set ?_ GE254.out) | exact HB.out)) hb); clear HO258; clear BK254; clear HB; have HO258 := n0_; have HO263 := n1_; have HO265 := n2_; have BK254 := n3_; have HB := n4_; clear n0_ n1_ n2_ n3_ n4_; (try clear hb); (try clear hb2); (try clear hk); (try clear hi); (try clear ho0); (try clear ho1); obtain ⟨Ao17, co17, eo17⟩ := Kd.R_slice HO263.out; subst eo17; have p266 : 0 ≤ (0 : Int) := (by omega); have q266 : 0 < (t259.length : Int) := of_decide_eq_true (by first | (with_reducible assumption) | assumption); obtain ⟨ad266, e266, hx266_0⟩ := Kd.at_int (Kd.R_reads' HO263.out).2.2 0 p266 q266; cases e266; have qi266 : (0 < t259.length) = True := eq_true (by omega); (try rw [show ((0 : Int)).toNat = 0 from rfl] at hx266_0); (try rw [Addr.add_zero'] at hx266_0); replace p266 := eq_true p266; replace q266 := eq_true q266; have p267 : 0 ≤ (2 : Int) := (by omega); have q267 : 2 < (t259.length : Int) := of_decide_eq_true (by first | (with_reducible assumption) | assumption); obtain ⟨ad267, e267, hx267_0⟩ := Kd.at_int (Kd.R_reads' HO263.out).2.2 2 p267 q267; obtain rfl : ad266 = ad267 := (by injection e267); (try simp only [show (2 : Int).toNat = 2 from rfl, Nat.reduceMul, Nat.reduceEqDiff, Go.Addr.add, ↓reduceIte] at hx267_0); have qi267 : (2 < t259.length) = True := eq_true (by omega); (try rw [show ((2 : Int)).toNat = 2 from rfl] at hx267_0); replace p267 := eq_true p267; replace q267 := eq_true q267; have hcz18_0 : w16.cell? ⟨gb254, 0, none⟩ = some (.int .u32 0) := (blk_cell BK254.out 0).trans rfl; have hcz18_1 : w16.cell? ⟨gb254, 1, none⟩ = some (.slice none 0 0) := (blk_cell BK254.out 1).trans rfl; have hfz18_0 := blk_frozen BK254.out 0; have hfz18_1 := blk_frozen BK254.out 1))
        refine bodyPost_ret (results_ctt rfl _ _ gb254 113 #[.int .u32 0, .slice none 0 0] (0, 0) _ rfl (by (with_reducible repeat (first | refine blk_drewN ?_ _ | refine blk_drew ?_ | refine blk_alloc ?_ _)); refine blk_put (cs := #[.int .u32 0, .slice none 0 0]) ?_ 1 _ rfl; (with_reducible repeat (first | refine blk_drewN ?_ _ | refine blk_drew ?_ | refine blk_alloc ?_ _)); refine blk_put (cs := #[.int .u32 0, .slice none 0 0]) ?_ 0 _ rfl; (with_reducible repeat (first | refine blk_drewN ?_ _ | refine blk_drew ?_ | refine blk_alloc ?_ _)); exact BK254.out) Tryd.underlying113 rfl (by kernel_rfl)) rfl ?_
        exact ⟨_, by first | rfl | (simp [errW_none, errW_some] <;> rfl) | (simp only [← hji2]; first | rfl | (simp [errW_none, errW_some] <;> rfl)) | (simp [*, errW_none, errW_some] <;> rfl), by first | exact Kd.R_nil _ _ _ _ _ | exact Kd.N_nil _ _ _ _ _ | exact Kd.V_nil _ _ _ _ _ | exact Kd.Q_nil _ _ _ _ _ | exact Kd.S_nil _ _ _ _ _, by repeat (first | (with_reducible first | exact HB.out | apply below_alloc | apply pw_below_drewN | apply below_drew1 | refine below_set ?_ GE254.out) | exact HB.out)⟩
       ·rw [if_neg c10] at H
        have c10b0 : decide (1024 < (rd t259 2)) = false := decide_eq_false c10
        clear c10
        by_cases c19 : (wrap64 (16 + (wrap64 (rd t259 2)))) > (l0.length : Int)
        ·rw [if_pos c19] at H
         have c19b0 : decide ((l0.length : Int) < (wrap64 (16 + (wrap64 (rd t259 2))))) = true := decide_eq_true c19
         clear c19
         simp only [Option.some.injEq, Prod.mk.injEq] at H
         obtain ⟨rfl, rfl, rfl, rfl⟩ := H
         go_enter Tryd.func54, Tryd.ntmps54
         go_wp2_with (first | ((with_reducible refine gate_dst (N := 2) rfl ?_); refine box_event ?hg (N := 2) ?hd (cs := #[.int .u32 0, .slice none 0 0]) (t := 113) ?hr ?_; (case hd => rfl); (case hg => rfl); (case hr => first | (go_simp; done) | (go_simp; rfl) | (go_simp; simp only [IntKind.wrap_u32, Int.emod_add_emod, Int.add_emod_emod])); intro gb254 hg w20 hbox hb; have n0_ := Aside0.mk (below_step (by repeat (first | (with_reducible first | exact HB.out | apply below_alloc | apply pw_below_drewN | apply below_drew1) | exact HB.out)) hb); have n1_ := Aside0.mk (hbox); have n2_ := Aside0.mk ((by rw [hg]; exact (below_size (by repeat (first | (with_reducible first | exact HB.out | apply below_alloc | apply pw_below_drewN | apply below_drew1) | exact HB.out))) : w.heap.size ≤ gb254)); have n3_ := Aside0.mk ((by rw [hg]; exact (below_size (by repeat (first | (with_reducible first | exact HB.out | apply below_alloc | apply pw_below_drewN | apply below_drew1) | exact HB.out))) : w.heap.size ≤ gb254)); clear HB; have HB := n0_; have BK254 := n1_; have GW254 := n2_; have GE254 := n3_; clear n0_ n1_ n2_ n3_; clear hb hbox hg; obtain ⟨i021, hi021, _, hsz21, _⟩ := info_parts info5; obtain ⟨hcut21, hA21, hC21⟩ := print_take_of (P := Tryd.prog) (Value.int .u8) 0 23 5 .i64 Tryd.underlying23 hi021 hsz21 A0 c0 l0 (ji2) (of_decide_eq_true (by first | (with_reducible assumption) | assumption)) (of_decide_eq_true (by first | (with_reducible assumption) | assumption)) HC0.out; have HR255 := Aside0.mk (Kd.C_of_reads (h1 := fun _ => rfl) (hA21 _ (Kd.reads_of_C HR0.out))); have HC255 := Aside0.mk hC21; clear hA21 hC21 hi021 hsz21) | ((with_reducible refine gate_dst (N := 15) rfl ?_); refine Kd.R_lit (Kd.int .i64) _ 3 ?hg (N := 15) ?hd (xs := ([8, 4, 4] : List Int)) (inner := [.int .i64 8, .int .i64 4, .int .i64 4]) (ok := fun _ => True) (okp := fun _ => True) ?hr ?hp (fun _ hk => hk) trivial (Below.refl _ _) (Nat.le_refl _) (by simp) ?_; (case hd => rfl); (case hg => rfl); (case hr => first | (go_simp; done) | (go_simp; rfl) | (go_simp; simp only [IntKind.wrap_u32, Int.emod_add_emod, Int.add_emod_emod])); (case hp => exact (Reps.one (show Kd.M (Kd.int .i64) _ _ _ 8 [.int .i64 8] from rfl) (Reps.one (show Kd.M (Kd.int .i64) _ _ _ 4 [.int .i64 4] from rfl) (Reps.one (show Kd.M (Kd.int .i64) _ _ _ 4 [.int .i64 4] from rfl) (Reps.none _ _))))); intro v257 w22 ho23 hb hg_ hnew_; clear hg_ hnew_; (first | rw [← Ny256.out] at ho23 | (simp only [Int.reduceToNat] at ho23; rw [← Ny256.out] at ho23)); have n0_ := Aside0.mk (Kd.R_lower ho23 (below_size (by repeat (first | (with_reducible first | exact HB.out | apply below_alloc | apply pw_below_drewN | apply below_drew1 | refine below_set ?_ GE254.out) | exact HB.out)))); have n1_ := Aside0.mk (blk_below (g := gb254) (o := .cells #[.int .u32 0, .slice none 0 0] 113 (0, 0)) (by (with_reducible repeat (first | refine blk_drewN ?_ _ | refine blk_drew ?_ | refine blk_alloc ?_ _)); exact BK254.out) hb); have n2_ := Aside0.mk (below_step (by repeat (first | (with_reducible first | exact HB.out | apply below_alloc | apply pw_below_drewN | apply below_drew1 | refine below_set ?_ GE254.out) | exact HB.out)) hb); clear BK254; clear HB; have HO258 := n0_; have BK254 := n1_; have HB := n2_; clear n0_ n1_ n2_; clear hb ho23; obtain ⟨Ao24, co24, eo24⟩ := Kd.R_slice HO258.out; subst eo24) | ((with_reducible refine gate_callee (f := 65) rfl ?_); refine goesL_ (some 16) rfl rfl Tryd.func65 (by kernel_rfl) rfl #[.slice A0 (l0.take ((ji2) : Int).toNat).length c0, .slice Ao24 y256.length co24] rfl (by (try simp only [List.map_toArray, List.map_cons, List.map_nil]); first | done | (rw [show (l0.take ((ji2) : Int).toNat).length = (ji2).toNat from (by rw [List.length_take]; have h_ : ((ji2) : Int) ≤ (l0.length : Int) := of_decide_eq_true (by first | (with_reducible assumption) | assumption); omega)] <;> rfl) | (simp only [hji2]; rfl) | rfl | (simp only [List.length_drop, List.length_take]; rfl) | (simp only [List.length_drop, List.length_take]; (repeat rw [Nat.min_eq_left (by simp only [eq_iff_iff, iff_true] at *; omega)]); rfl)) ?_; (with_reducible refine (wire_Take.calls _ _ (l0.take ((ji2) : Int).toNat) _ _ y256 t259 t260 true _ ?side1 ?side2 ?side3 ?side4 A5.out).mono ?_); (case side1 => repeat (first | exact (Kd.C_below HR255.out HB.out) | (with_reducible refine Kd.C_alloc ?_ _) | (with_reducible refine Kd.C_drewN ?_ _) | (with_reducible refine Kd.C_drew ?_))); (case side2 => exact HC255.out); (case side3 => repeat (first | exact (Kd.R_reads' HO258.out).2.2 | (with_reducible refine Kd.C_alloc ?_ _) | (with_reducible refine Kd.C_drewN ?_ _) | (with_reducible refine Kd.C_drew ?_))); (case side4 => exact (Kd.R_reads' HO258.out).2.1); rintro e w25 ⟨v262, v264, rfl, ho0, ho1, hb⟩; refine ⟨_, rfl, ?_⟩; have n0_ := Aside0.mk (Kd.R_below (by (with_reducible repeat (first | apply Kd.R_alloc | apply Kd.R_drewN | apply Kd.R_drew)); exact HO258.out) hb); have n1_ := Aside0.mk (Kd.R_lower ho0 (below_size (by repeat (first | (with_reducible first | exact HB.out | apply below_alloc | apply pw_below_drewN | apply below_drew1 | refine below_set ?_ GE254.out) | exact HB.out)))); have n2_ := Aside0.mk (Kd.R_lower ho1 (below_size (by repeat (first | (with_reducible first | exact HB.out | apply below_alloc | apply pw_below_drewN | apply below_drew1 | refine below_set ?_ GE254.out) | exact HB.out)))); have n3_ := Aside0.mk (blk_below (g := gb254) (o := .cells #[.int .u32 0, .slice none 0 0] 113 (0, 0)) (by (with_reducible repeat (first | refine blk_drewN ?_ _ | refine blk_drew ?_ | refine blk_alloc ?_ _)); exact BK254.out) hb); have n4_ := Aside0.mk (below_step (by repeat (first | (with_reducible first | exact HB.out | apply below_alloc | apply pw_below_drewN | apply below_drew1 | refine below_set ?_ GE254.out) | exact HB.out)) hb); clear HO258; clear BK254; clear HB; have HO258 := n0_; have HO263 := n1_; have HO265 := n2_; have BK254 := n3_; have HB := n4_; clear n0_ n1_ n2_ n3_ n4_; (try clear hb); (try clear hb2); (try clear hk); (try clear hi); (try clear ho0); (try clear ho1); obtain ⟨Ao26, co26, eo26⟩ := Kd.R_slice HO263.out; subst eo26; have p266 : 0 ≤ (0 : Int) := (by omega); have q266 : 0 < (t259.length : Int) := of_decide_eq_true (by first | (with_reducible assumption) | assumption); obtain ⟨ad266, e266, hx266_0⟩ := Kd.at_int (Kd.R_reads' HO263.out).2.2 0 p266 q266; cases e266; have qi266 : (0 < t259.length) = True := eq_true (by omega); (try rw [show ((0 : Int)).toNat = 0 from rfl] at hx266_0); (try rw [Addr.add_zero'] at hx266_0); replace p266 := eq_true p266; replace q266 := eq_true q266; have p267 : 0 ≤ (2 : Int) := (by omega); have q267 : 2 < (t259.length : Int) := of_decide_eq_true (by first | (with_reducible assumption) | assumption); obtain ⟨ad267, e267, hx267_0⟩ := Kd.at_int (Kd.R_reads' HO263.out).2.2 2 p267 q267; obtain rfl : ad266 = ad267 := (by injection e267); (try simp only [show (2 : Int).toNat = 2 from rfl, Nat.reduceMul, Nat.reduceEqDiff, Go.Addr.add, ↓reduceIte] at hx267_0); have qi267 : (2 < t259.length) = True := eq_true (by omega); (try rw [show ((2 : Int)).toNat = 2 from rfl] at hx267_0); replace p267 := eq_true p267; replace q267 := eq_true q267; have p268 : 0 ≤ (2 : Int) := (by omega); have q268 : 2 < (t259.length : Int) := of_decide_eq_true (by first | (with_reducible assumption) | assumption); obtain ⟨ad268, e268, hx268_0⟩ := Kd.at_int (Kd.R_reads' HO263.out).2.2 2 p268 q268; obtain rfl : ad266 = ad268 := (by injection e268); (try simp only [show (2 : Int).toNat = 2 from rfl, Nat.reduceMul, Nat.reduceEqDiff, Go.Addr.add, ↓reduceIte] at hx268_0); have qi268 : (2 < t259.length) = True := eq_true (by omega); (try rw [show ((2 : Int)).toNat = 2 from rfl] at hx268_0); replace p268 := eq_true p268; replace q268 := eq_true q268; have hcz27_0 : w25.cell? ⟨gb254, 0, none⟩ = some (.int .u32 0) := (blk_cell BK254.out 0).trans rfl; have hcz27_1 : w25.cell? ⟨gb254, 1, none⟩ = some (.slice none 0 0) := (blk_cell BK254.out 1).trans rfl; have hfz27_0 := blk_frozen BK254.out 0; have hfz27_1 := blk_frozen BK254.out 1))
         refine bodyPost_ret (results_ctt rfl _ _ gb254 113 #[.int .u32 0, .slice none 0 0] (0, 0) _ rfl (by (with_reducible repeat (first | refine blk_drewN ?_ _ | refine blk_drew ?_ | refine blk_alloc ?_ _)); refine blk_put (cs := #[.int .u32 0, .slice none 0 0]) ?_ 1 _ rfl; (with_reducible repeat (first | refine blk_drewN ?_ _ | refine blk_drew ?_ | refine blk_alloc ?_ _)); refine blk_put (cs := #[.int .u32 0, .slice none 0 0]) ?_ 0 _ rfl; (with_reducible repeat (first | refine blk_drewN ?_ _ | refine blk_drew ?_ | refine blk_alloc ?_ _)); exact BK254.out) Tryd.underlying113 rfl (by kernel_rfl)) rfl ?_
         exact ⟨_, by first | rfl | (simp [errW_none, errW_some] <;> rfl) | (simp only [← hji2]; first | rfl | (simp [errW_none, errW_some] <;> rfl)) | (simp [*, errW_none, errW_some] <;> rfl), by first | exact Kd.R_nil _ _ _ _ _ | exact Kd.N_nil _ _ _ _ _ | exact Kd.V_nil _ _ _ _ _ | exact Kd.Q_nil _ _ _ _ _ | exact Kd.S_nil _ _ _ _ _, by repeat (first | (with_reducible first | exact HB.out | apply below_alloc | apply pw_below_drewN | apply below_drew1 | refine below_set ?_ GE254.out) | exact HB.out)⟩
        ·rw [if_neg c19] at H
         have c19b0 : decide ((l0.length : Int) < (wrap64 (16 + (wrap64 (rd t259 2))))) = false := decide_eq_false c19
         clear c19
         by_cases c28 : 1 < (t259.length : Int)
         ·rw [if_pos c28] at H
          have c28b0 : decide (1 < (t259.length : Int)) = true := decide_eq_true c28
          have c28b1 : decide (1 < t259.length) = true := decide_eq_true (by omega)
          clear c28
          by_cases c29 : 16 ≤ (wrap64 (16 + (wrap64 (rd t259 2))))
          ·rw [if_pos c29] at H
           have c29b0 := eq_true c29
           have c29b1 : decide (16 ≤ (wrap64 (16 + (wrap64 (rd t259 2))))) = true := decide_eq_true c29
           by_cases c30 : (wrap64 (16 + (wrap64 (rd t259 2)))) ≤ (l0.length : Int)
           ·rw [if_pos c30] at H
            have c30b0 := eq_true c30
            have c30b1 : decide ((wrap64 (16 + (wrap64 (rd t259 2)))) ≤ (l0.length : Int)) = true := decide_eq_true c30
            replace H := Option.bind_eq_some_iff.mp H
            obtain ⟨t271, A310, H⟩ := H
            replace H : (some ((rd t259 1) % 4294967296, t271, wrap64 (16 + (wrap64 (rd t259 2))), 0)) = some (r1, r2, r3, r4) := H
            have A31 := Aside0.mk A310
            clear A310
            simp only [Option.some.injEq, Prod.mk.injEq] at H
            obtain ⟨rfl, rfl, rfl, rfl⟩ := H
            go_enter Tryd.func54, Tryd.ntmps54
            try go_wp2_with (first | ((with_reducible refine gate_dst (N := 2) rfl ?_); refine box_event ?hg (N := 2) ?hd (cs := #[.int .u32 0, .slice none 0 0]) (t := 113) ?hr ?_; (case hd => rfl); (case hg => rfl); (case hr => first | (go_simp; done) | (go_simp; rfl) | (go_simp; simp only [IntKind.wrap_u32, Int.emod_add_emod, Int.add_emod_emod])); intro gb254 hg w32 hbox hb; have n0_ := Aside0.mk (below_step (by repeat (first | (with_reducible first | exact HB.out | apply below_alloc | apply pw_below_drewN | apply below_drew1) | exact HB.out)) hb); have n1_ := Aside0.mk (hbox); have n2_ := Aside0.mk ((by rw [hg]; exact (below_size (by repeat (first | (with_reducible first | exact HB.out | apply below_alloc | apply pw_below_drewN | apply below_drew1) | exact HB.out))) : w.heap.size ≤ gb254)); have n3_ := Aside0.mk ((by rw [hg]; exact (below_size (by repeat (first | (with_reducible first | exact HB.out | apply below_alloc | apply pw_below_drewN | apply below_drew1) | exact HB.out))) : w.heap.size ≤ gb254)); clear HB; have HB := n0_; have BK254 := n1_; have GW254 := n2_; have GE254 := n3_; clear n0_ n1_ n2_ n3_; clear hb hbox hg; obtain ⟨i033, hi033, _, hsz33, _⟩ := info_parts info5; obtain ⟨hcut33, hA33, hC33⟩ := print_take_of (P := Tryd.prog) (Value.int .u8) 0 23 5 .i64 Tryd.underlying23 hi033 hsz33 A0 c0 l0 (ji2) (of_decide_eq_true (by first | (with_reducible assumption) | assumption)) (of_decide_eq_true (by first | (with_reducible assumption) | assumption)) HC0.out; have HR255 := Aside0.mk (Kd.C_of_reads (h1 := fun _ => rfl) (hA33 _ (Kd.reads_of_C HR0.out))); have HC255 := Aside0.mk hC33; clear hA33 hC33 hi033 hsz33) | ((with_reducible refine gate_dst (N := 15) rfl ?_); refine Kd.R_lit (Kd.int .i64) _ 3 ?hg (N := 15) ?hd (xs := ([8, 4, 4] : List Int)) (inner := [.int .i64 8, .int .i64 4, .int .i64 4]) (ok := fun _ => True) (okp := fun _ => True) ?hr ?hp (fun _ hk => hk) trivial (Below.refl _ _) (Nat.le_refl _) (by simp) ?_; (case hd => rfl); (case hg => rfl); (case hr => first | (go_simp; done) | (go_simp; rfl) | (go_simp; simp only [IntKind.wrap_u32, Int.emod_add_emod, Int.add_emod_emod])); (case hp => exact (Reps.one (show Kd.M (Kd.int .i64) _ _ _ 8 [.int .i64 8] from rfl) (Reps.one (show Kd.M (Kd.int .i64) _ _ _ 4 [.int .i64 4] from rfl) (Reps.one (show Kd.M (Kd.int .i64) _ _ _ 4 [.int .i64 4] from rfl) (Reps.none _ _))))); intro v257 w34 ho35 hb hg_ hnew_; clear hg_ hnew_; (first | rw [← Ny256.out] at ho35 | (simp only [Int.reduceToNat] at ho35; rw [← Ny256.out] at ho35)); have n0_ := Aside0.mk (Kd.R_lower ho35 (below_size (by repeat (first | (with_reducible first | exact HB.out | apply below_alloc | apply pw_below_drewN | apply below_drew1 | refine below_set ?_ GE254.out) | exact HB.out)))); have n1_ := Aside0.mk (blk_below (g := gb254) (o := .cells #[.int .u32 0, .slice none 0 0] 113 (0, 0)) (by (with_reducible repeat (first | refine blk_drewN ?_ _ | refine blk_drew ?_ | refine blk_alloc ?_ _)); exact BK254.out) hb); have n2_ := Aside0.mk (below_step (by repeat (first | (with_reducible first | exact HB.out | apply below_alloc | apply pw_below_drewN | apply below_drew1 | refine below_set ?_ GE254.out) | exact HB.out)) hb); clear BK254; clear HB; have HO258 := n0_; have BK254 := n1_; have HB := n2_; clear n0_ n1_ n2_; clear hb ho35; obtain ⟨Ao36, co36, eo36⟩ := Kd.R_slice HO258.out; subst eo36) | ((with_reducible refine gate_callee (f := 65) rfl ?_); refine goesL_ (some 16) rfl rfl Tryd.func65 (by kernel_rfl) rfl #[.slice A0 (l0.take ((ji2) : Int).toNat).length c0, .slice Ao36 y256.length co36] rfl (by (try simp only [List.map_toArray, List.map_cons, List.map_nil]); first | done | (rw [show (l0.take ((ji2) : Int).toNat).length = (ji2).toNat from (by rw [List.length_take]; have h_ : ((ji2) : Int) ≤ (l0.length : Int) := of_decide_eq_true (by first | (with_reducible assumption) | assumption); omega)] <;> rfl) | (simp only [hji2]; rfl) | rfl | (simp only [List.length_drop, List.length_take]; rfl) | (simp only [List.length_drop, List.length_take]; (repeat rw [Nat.min_eq_left (by simp only [eq_iff_iff, iff_true] at *; omega)]); rfl)) ?_; (with_reducible refine (wire_Take.calls _ _ (l0.take ((ji2) : Int).toNat) _ _ y256 t259 t260 true _ ?side1 ?side2 ?side3 ?side4 A5.out).mono ?_); (case side1 => repeat (first | exact (Kd.C_below HR255.out HB.out) | (with_reducible refine Kd.C_alloc ?_ _) | (with_reducible refine Kd.C_drewN ?_ _) | (with_reducible refine Kd.C_drew ?_))); (case side2 => exact HC255.out); (case side3 => repeat (first | exact (Kd.R_reads' HO258.out).2.2 | (with_reducible refine Kd.C_alloc ?_ _) | (with_reducible refine Kd.C_drewN ?_ _) | (with_reducible refine Kd.C_drew ?_))); (case side4 => exact (Kd.R_reads' HO258.out).2.1); rintro e w37 ⟨v262, v264, rfl, ho0, ho1, hb⟩; refine ⟨_, rfl, ?_⟩; have n0_ := Aside0.mk (Kd.R_below (by (with_reducible repeat (first | apply Kd.R_alloc | apply Kd.R_drewN | apply Kd.R_drew)); exact HO258.out) hb); have n1_ := Aside0.mk (Kd.R_lower ho0 (below_size (by repeat (first | (with_reducible first | exact HB.out | apply below_alloc | apply pw_below_drewN | apply below_drew1 | refine below_set ?_ GE254.out) | exact HB.out)))); have n2_ := Aside0.mk (Kd.R_lower ho1 (below_size (by repeat (first | (with_reducible first | exact HB.out | apply below_alloc | apply pw_below_drewN | apply below_drew1 | refine below_set ?_ GE254.out) | exact HB.out)))); have n3_ := Aside0.mk (blk_below (g := gb254) (o := .cells #[.int .u32 0, .slice none 0 0] 113 (0, 0)) (by (with_reducible repeat (first | refine blk_drewN ?_ _ | refine blk_drew ?_ | refine blk_alloc ?_ _)); exact BK254.out) hb); have n4_ := Aside0.mk (below_step (by repeat (first | (with_reducible first | exact HB.out | apply below_alloc | apply pw_below_drewN | apply below_drew1 | refine below_set ?_ GE254.out) | exact HB.out)) hb); clear HO258; clear BK254; clear HB; have HO258 := n0_; have HO263 := n1_; have HO265 := n2_; have BK254 := n3_; have HB := n4_; clear n0_ n1_ n2_ n3_ n4_; (try clear hb); (try clear hb2); (try clear hk); (try clear hi); (try clear ho0); (try clear ho1); obtain ⟨Ao38, co38, eo38⟩ := Kd.R_slice HO263.out; subst eo38; have p266 : 0 ≤ (0 : Int) := (by omega); have q266 : 0 < (t259.length : Int) := of_decide_eq_true (by first | (with_reducible assumption) | assumption); obtain ⟨ad266, e266, hx266_0⟩ := Kd.at_int (Kd.R_reads' HO263.out).2.2 0 p266 q266; cases e266; have qi266 : (0 < t259.length) = True := eq_true (by omega); (try rw [show ((0 : Int)).toNat = 0 from rfl] at hx266_0); (try rw [Addr.add_zero'] at hx266_0); replace p266 := eq_true p266; replace q266 := eq_true q266; have p267 : 0 ≤ (2 : Int) := (by omega); have q267 : 2 < (t259.length : Int) := of_decide_eq_true (by first | (with_reducible assumption) | assumption); obtain ⟨ad267, e267, hx267_0⟩ := Kd.at_int (Kd.R_reads' HO263.out).2.2 2 p267 q267; obtain rfl : ad266 = ad267 := (by injection e267); (try simp only [show (2 : Int).toNat = 2 from rfl, Nat.reduceMul, Nat.reduceEqDiff, Go.Addr.add, ↓reduceIte] at hx267_0); have qi267 : (2 < t259.length) = True := eq_true (by omega); (try rw [show ((2 : Int)).toNat = 2 from rfl] at hx267_0); replace p267 := eq_true p267; replace q267 := eq_true q267; have p268 : 0 ≤ (2 : Int) := (by omega); have q268 : 2 < (t259.length : Int) := of_decide_eq_true (by first | (with_reducible assumption) | assumption); obtain ⟨ad268, e268, hx268_0⟩ := Kd.at_int (Kd.R_reads' HO263.out).2.2 2 p268 q268; obtain rfl : ad266 = ad268 := (by injection e268); (try simp only [show (2 : Int).toNat = 2 from rfl, Nat.reduceMul, Nat.reduceEqDiff, Go.Addr.add, ↓reduceIte] at hx268_0); have qi268 : (2 < t259.length) = True := eq_true (by omega); (try rw [show ((2 : Int)).toNat = 2 from rfl] at hx268_0); replace p268 := eq_true p268; replace q268 := eq_true q268))
            have n0_ := Aside0.mk (Kd.R_drew HO258.out)
            have n1_ := Aside0.mk (Kd.R_drew HO263.out)
            have n2_ := Aside0.mk (Kd.R_drew HO265.out)
            have n3_ := Aside0.mk (blk_drew BK254.out)
            have n4_ := Aside0.mk (below_drew1 HB.out)
            clear HO258
            clear HO263
            clear HO265
            clear BK254
            clear HB
            have HO258 := n0_
            have HO263 := n1_
            have HO265 := n2_
            have BK254 := n3_
            have HB := n4_
            clear n0_ n1_ n2_ n3_ n4_
            have p269 : 0 ≤ (1 : Int) := (by omega)
            have q269 : 1 < (t259.length : Int) := of_decide_eq_true (by first | (with_reducible assumption) | assumption)
            obtain ⟨ad269, e269, hx269_0⟩ := Kd.at_int (Kd.R_reads' HO263.out).2.2 1 p269 q269
            obtain rfl : ad266 = ad269 := (by injection e269)
            (try simp only [show (1 : Int).toNat = 1 from rfl, Nat.reduceMul, Nat.reduceEqDiff, Go.Addr.add, ↓reduceIte] at hx269_0)
            have qi269 : (1 < t259.length) = True := eq_true (by omega)
            (try rw [show ((1 : Int)).toNat = 1 from rfl] at hx269_0)
            replace p269 := eq_true p269
            replace q269 := eq_true q269
            obtain ⟨i040, hi040, _, hsz40, _⟩ := info_parts info5
            obtain ⟨A40, hcut40, hA40, hC40⟩ := print_mid_of (P := Tryd.prog) (Value.int .u8) 0 23 5 .i64 .i64 Tryd.underlying23 hi040 hsz40 A0 c0 l0 16 (wrap64 (16 + (wrap64 (rd t259 2)))) (by omega) (by first | omega | exact of_decide_eq_true (by first | (with_reducible assumption) | assumption)) (of_decide_eq_true (by first | (with_reducible assumption) | assumption)) HC0.out
            have HR270 := Aside0.mk (Kd.C_of_reads (h1 := fun _ => rfl) (hA40 _ (Kd.reads_of_C HR0.out)))
            have HC270 := Aside0.mk hC40
            clear hA40 hC40 hi040 hsz40
            refine start_ (n := 13) (S := fun w' => w'.cell? ⟨ad266.block, ad266.off + 1, none⟩ = some (.int .u64 (rd t259 1))) (ds := []) #[false, false, false, false, false, false, false, false, false, false, false, false, false] (by kernel_rfl) rfl rfl (hx269_0) (fun hHeld => ?_); refine with_tabW greet_Next.tab11 greet_Next.bits11 (fun HT_ HW_ => ?_)
            generalize w37.drew = w39 at HO258 HO263 HO265 BK254 HB HR270 hx269_0 hHeld ⊢
            refine pure_ (i := 0) (N := some 46) (v := ?_) (a' := ?_) #[true, false, false, false, false, false, false, false, false, false, false, false, false] rfl rfl (any_of HT_.out (by kernel_rfl)) (fun _ _ _ h => h) (Or.inl ⟨by rfl, ?_⟩) ?_ ?_
            rotate_left
            ·intro w'
             go_simp
             with_reducible rfl
            rotate_left
            ·simp only [Act.put, List.setIfInBounds_toArray, List.set_cons_zero, List.set_cons_succ, i64_w, i32_w]
             rfl
            refine pure_ (i := 1) (N := some 47) (v := ?_) (a' := ?_) #[true, true, false, false, false, false, false, false, false, false, false, false, false] rfl rfl (any_of HT_.out (by kernel_rfl)) (fun _ _ _ h => h) (Or.inl ⟨by rfl, ?_⟩) ?_ ?_
            rotate_left
            ·intro w'
             go_simp
             with_reducible rfl
            rotate_left
            ·simp only [Act.put, List.setIfInBounds_toArray, List.set_cons_zero, List.set_cons_succ, i64_w, i32_w]
             rfl
            refine pure_ (i := 4) (N := some 50) (v := ?_) (a' := ?_) #[true, true, false, false, true, false, false, false, false, false, false, false, false] rfl rfl (any_of HT_.out (by kernel_rfl)) (fun _ _ _ h => h) (Or.inl ⟨by rfl, ?_⟩) ?_ ?_
            rotate_left
            ·intro w'
             go_simp
             with_reducible rfl
            rotate_left
            ·simp only [Act.put, List.setIfInBounds_toArray, List.set_cons_zero, List.set_cons_succ, i64_w, i32_w]
             rfl
            refine pure_ (i := 5) (N := some 51) (v := ?_) (a' := ?_) #[true, true, false, false, true, true, false, false, false, false, false, false, false] rfl rfl (any_of HT_.out (by kernel_rfl)) (fun _ _ _ h => h) (Or.inl ⟨by rfl, ?_⟩) ?_ ?_
            rotate_left
            ·intro w'
             go_simp
             with_reducible rfl
            rotate_left
            ·simp only [Act.put, List.setIfInBounds_toArray, List.set_cons_zero, List.set_cons_succ, i64_w, i32_w]
             rfl
            refine pure_ (i := 6) (N := some 52) (v := ?_) (a' := ?_) #[true, true, false, false, true, true, true, false, false, false, false, false, false] rfl rfl (any_of HT_.out (by kernel_rfl)) (fun _ _ _ h => h) (Or.inl ⟨by rfl, ?_⟩) ?_ ?_
            rotate_left
            ·intro w'
             go_simp
             with_reducible rfl
            rotate_left
            ·simp only [Act.put, List.setIfInBounds_toArray, List.set_cons_zero, List.set_cons_succ, i64_w, i32_w]
             rfl
            refine pure_ (i := 9) (N := some 55) (v := ?_) (a' := ?_) #[true, true, false, false, true, true, true, false, false, true, false, false, false] rfl rfl (any_of HT_.out (by kernel_rfl)) (fun _ _ _ h => h) (Or.inl ⟨by rfl, ?_⟩) ?_ ?_
            rotate_left
            ·intro w'
             go_simp
             with_reducible rfl
            rotate_left
            ·simp only [Act.put, List.setIfInBounds_toArray, List.set_cons_zero, List.set_cons_succ, i64_w, i32_w]
             rfl
            refine take_ (i := 2) (N := some 48) (v := ?_) (a' := ?_) #[true, true, true, false, true, true, true, false, false, true, false, false, false] rfl rfl (take_ofW HT_.out HW_.out (by kernel_rfl)) (fun _ _ _ h => h) (Or.inl ⟨by rfl, ?_⟩) hHeld ?_ ?_
            rotate_left
            ·intro w' s0
             go_simp
             with_reducible rfl
            rotate_left
            ·simp only [Act.put, List.setIfInBounds_toArray, List.set_cons_zero, List.set_cons_succ, i64_w, i32_w]
             rfl
            refine pure_ (i := 3) (N := some 49) (v := ?_) (a' := ?_) #[true, true, true, true, true, true, true, false, false, true, false, false, false] rfl rfl (any_of HT_.out (by kernel_rfl)) (fun _ _ _ h => h) (Or.inl ⟨by rfl, ?_⟩) ?_ ?_
            rotate_left
            ·intro w'
             go_simp
             with_reducible rfl
            rotate_left
            ·simp only [Act.put, List.setIfInBounds_toArray, List.set_cons_zero, List.set_cons_succ, i64_w, i32_w]
             rfl
            refine one_ (i := 7) (N := some 53) #[true, true, true, true, true, true, true, true, false, true, false, false, false] rfl rfl (one_of HT_.out (by kernel_rfl)) (by decide) (fun K hK => ?_)
            refine goes_ Tryd.func41 (by kernel_rfl) rfl #[.slice A40 ((l0.take ((wrap64 (16 + (wrap64 (rd t259 2)))) : Int).toNat).drop 16).length (c0 - 16)] (by rfl) rfl rfl (by (try simp only [List.map_toArray, List.map_cons, List.map_nil]); first | done | (rw [show ((l0.take ((wrap64 (16 + (wrap64 (rd t259 2)))) : Int).toNat).drop 16).length = ((wrap64 (16 + (wrap64 (rd t259 2)))).toNat - 16) from (by rw [List.length_drop, List.length_take]; have h_ : ((wrap64 (16 + (wrap64 (rd t259 2)))) : Int) ≤ (l0.length : Int) := of_decide_eq_true (by first | (with_reducible assumption) | assumption); omega)] <;> rfl) | rfl | (simp only [List.length_drop, List.length_take]; rfl) | (simp only [List.length_drop, List.length_take]; (repeat rw [Nat.min_eq_left (by simp only [eq_iff_iff, iff_true] at *; omega)]); rfl)) ?_
            with_reducible refine (clone_.calls _ _ ((l0.take ((wrap64 (16 + (wrap64 (rd t259 2)))) : Int).toNat).drop 16) t271 _ ?side1 ?side2 A31.out).mono ?_
            (case side1 => repeat (first | exact (Kd.C_below HR270.out HB.out) | (with_reducible refine Kd.C_alloc ?_ _) | (with_reducible refine Kd.C_drewN ?_ _) | (with_reducible refine Kd.C_drew ?_)))
            (case side2 => exact HC270.out)
            rintro e w41 ⟨v272, rfl, ho0, hb⟩
            have HS0_ := (hb.cell (World.block_lt_of_cell? _ _ (hHeld))).trans (hHeld)
            refine ⟨_, rfl, ?_⟩
            have n0_ := Aside0.mk (Kd.R_below (by (with_reducible repeat (first | apply Kd.R_alloc | apply Kd.R_drewN | apply Kd.R_drew)); exact HO258.out) hb)
            have n1_ := Aside0.mk (Kd.R_below (by (with_reducible repeat (first | apply Kd.R_alloc | apply Kd.R_drewN | apply Kd.R_drew)); exact HO263.out) hb)
            have n2_ := Aside0.mk (Kd.R_elder' (by (with_reducible repeat (first | apply Kd.R_alloc | apply Kd.R_drewN | apply Kd.R_drew)); exact HO265.out) (Kd.R_base ho0) hb)
            have n3_ := Aside0.mk (Kd.R_lower (Kd.R_new' ho0 (Kd.R_lt (by (with_reducible repeat (first | apply Kd.R_alloc | apply Kd.R_drewN | apply Kd.R_drew)); exact HO265.out))) (below_size (by repeat (first | (with_reducible first | exact HB.out | apply below_alloc | apply pw_below_drewN | apply below_drew1 | refine below_set ?_ GE254.out) | exact HB.out))))
            have n4_ := Aside0.mk (blk_below (g := gb254) (o := .cells #[.int .u32 0, .slice none 0 0] 113 (0, 0)) (by (with_reducible repeat (first | refine blk_drewN ?_ _ | refine blk_drew ?_ | refine blk_alloc ?_ _)); exact BK254.out) hb)
            have n5_ := Aside0.mk (below_step (by repeat (first | (with_reducible first | exact HB.out | apply below_alloc | apply pw_below_drewN | apply below_drew1 | refine below_set ?_ GE254.out) | exact HB.out)) hb)
            clear HO258
            clear HO263
            clear HO265
            clear BK254
            clear HB
            have HO258 := n0_
            have HO263 := n1_
            have HO265 := n2_
            have HO273 := n3_
            have BK254 := n4_
            have HB := n5_
            clear n0_ n1_ n2_ n3_ n4_ n5_
            (try clear hb)
            (try clear hb2)
            (try clear hk)
            (try clear hi)
            (try clear ho0)
            obtain ⟨Ao42, co42, eo42⟩ := Kd.R_slice HO273.out
            (first | subst eo42 | (injection eo42 with f1_ f2_ f3_; have f4_ := f1_.symm; have f5_ := f3_.symm; clear f1_ f2_ f3_; subst f4_; subst f5_))
            refine hK.out _ _ (HS0_) (fun hHeld => ?_)
            clear hK K
            refine norm_ (a' := ?_) ?_ ?_
            rotate_left
            ·show Act.put _ (some 53) _ = _
             simp only [Act.put, List.setIfInBounds_toArray, List.set_cons_zero, List.set_cons_succ, i64_w, i32_w]
             rfl
            refine pure_ (i := 8) (N := some 54) (v := ?_) (a' := ?_) #[true, true, true, true, true, true, true, true, true, true, false, false, false] rfl rfl (any_of HT_.out (by kernel_rfl)) (fun _ _ _ h => h) (Or.inl ⟨by rfl, ?_⟩) ?_ ?_
            rotate_left
            ·intro w'
             go_simp
             with_reducible rfl
            rotate_left
            ·simp only [Act.put, List.setIfInBounds_toArray, List.set_cons_zero, List.set_cons_succ, i64_w, i32_w]
             rfl
            refine one_ (i := 10) (N := none) #[true, true, true, true, true, true, true, true, true, true, true, false, false] rfl rfl (one_of HT_.out (by kernel_rfl)) (by decide) (fun K hK => ?_)
            have hs43 : w41.cell? ⟨gb254, 0, none⟩ = some (.int .u32 0) := (blk_cell BK254.out 0).trans rfl
            have hfs43 := blk_frozen BK254.out 0
            have hs44 : w41.cell? ⟨gb254, 1, none⟩ = some (.slice none 0 0) := (blk_cell BK254.out 1).trans rfl
            have hfs44 := blk_frozen BK254.out 1
            refine skip_ (w1 := ?_) (by rfl) rfl ?_ ?_
            rotate_left
            ·go_simp
             rfl
            refine hK.out _ _ (((cell_far (p := ⟨gb254, _, none⟩) (by first | exact Kd.own_blk (Kd.R_ne HO263.out BK254.out (by decide)) | (rw [add_block]; exact Kd.own_blk (Kd.R_ne HO263.out BK254.out (by decide))) | (show (Addr.add _ _).block ≠ _; rw [add_block]; exact Kd.own_blk (Kd.R_ne HO263.out BK254.out (by decide))) | (dsimp only; exact Kd.own_blk (Kd.R_ne HO263.out BK254.out (by decide)))) _).trans (((cell_far (p := ⟨gb254, _, none⟩) (by first | exact Kd.own_blk (Kd.R_ne HO263.out BK254.out (by decide)) | (rw [add_block]; exact Kd.own_blk (Kd.R_ne HO263.out BK254.out (by decide))) | (show (Addr.add _ _).block ≠ _; rw [add_block]; exact Kd.own_blk (Kd.R_ne HO263.out BK254.out (by decide))) | (dsimp only; exact Kd.own_blk (Kd.R_ne HO263.out BK254.out (by decide)))) _).trans (hHeld))))) (fun hHeld => ?_)
            clear hK K
            refine pure_ (i := 11) (N := some 3) (v := ?_) (a' := ?_) #[true, true, true, true, true, true, true, true, true, true, true, true, false] rfl rfl (any_of HT_.out (by kernel_rfl)) (fun _ _ _ h => h) (Or.inl ⟨by rfl, ?_⟩) ?_ ?_
            rotate_left
            ·intro w'
             go_simp
             with_reducible rfl
            rotate_left
            ·simp only [Act.put, List.setIfInBounds_toArray, List.set_cons_zero, List.set_cons_succ, i64_w, i32_w]
             rfl
            refine pure_ (i := 12) (N := some 4) (v := ?_) (a' := ?_) #[true, true, true, true, true, true, true, true, true, true, true, true, true] rfl rfl (any_of HT_.out (by kernel_rfl)) (fun _ _ _ h => h) (Or.inl ⟨by rfl, ?_⟩) ?_ ?_
            rotate_left
            ·intro w'
             go_simp
             with_reducible rfl
            rotate_left
            ·simp only [Act.put, List.setIfInBounds_toArray, List.set_cons_zero, List.set_cons_succ, i64_w, i32_w]
             rfl
            refine done_ (done_of HT_.out (by kernel_rfl)) ?_
            try go_wp2
            refine bodyPost_ret (results_ctt rfl _ _ gb254 113 #[.int .u32 ((rd t259 1) % 4294967296), .slice Ao42 t271.length co42] (0, 0) _ rfl (by (with_reducible repeat (first | refine blk_drewN ?_ _ | refine blk_drew ?_ | refine blk_alloc ?_ _)); refine blk_put (cs := #[.int .u32 ((rd t259 1) % 4294967296), .slice none 0 0]) ?_ 1 _ rfl; (with_reducible repeat (first | refine blk_drewN ?_ _ | refine blk_drew ?_ | refine blk_alloc ?_ _)); refine blk_put (cs := #[.int .u32 0, .slice none 0 0]) ?_ 0 _ rfl; (with_reducible repeat (first | refine blk_drewN ?_ _ | refine blk_drew ?_ | refine blk_alloc ?_ _)); exact BK254.out) Tryd.underlying113 rfl (by kernel_rfl)) rfl ?_
            exact ⟨_, by first | rfl | (simp [errW_none, errW_some] <;> rfl) | (simp only [← hji2]; first | rfl | (simp [errW_none, errW_some] <;> rfl)) | (simp [*, errW_none, errW_some] <;> rfl), by (with_reducible repeat (first | apply Kd.R_alloc | apply Kd.R_drewN | apply Kd.R_drew)); exact Kd.R_mono (Kd.R_far (p := ⟨gb254, 1, none⟩) (Kd.R_far (p := ⟨gb254, 0, none⟩) (Kd.R_types HO273.out BK254.out (by decide)) (fun _ hk => hk.2) (.int .u32 ((rd t259 1) % 4294967296))) (fun _ hk => hk.2) (.slice Ao42 t271.length co42)) (fun _ hk => trivial), by repeat (first | (with_reducible first | exact HB.out | apply below_alloc | apply pw_below_drewN | apply below_drew1 | refine below_set ?_ GE254.out) | exact HB.out)⟩
           ·rw [if_neg c30] at H
            exact absurd H (by simp)
          ·rw [if_neg c29] at H
           exact absurd H (by simp)
         ·rw [if_neg c28] at H
          exact absurd H (by simp)
      ·rw [if_neg c9] at H
       exact absurd H (by simp)
     ·rw [if_neg c8] at H
      have c8b0 : ((rd t259 0) == 5280542401877725268) = false := beq_eq_false_iff_ne.mpr c8
      have c8b1 : ((rd t259 0) != 5280542401877725268) = true := bne_iff_ne.mpr c8
      simp only [Option.some.injEq, Prod.mk.injEq] at H
      obtain ⟨rfl, rfl, rfl, rfl⟩ := H
      go_enter Tryd.func54, Tryd.ntmps54
      go_wp2_with (first | ((with_reducible refine gate_dst (N := 2) rfl ?_); refine box_event ?hg (N := 2) ?hd (cs := #[.int .u32 0, .slice none 0 0]) (t := 113) ?hr ?_; (case hd => rfl); (case hg => rfl); (case hr => first | (go_simp; done) | (go_simp; rfl) | (go_simp; simp only [IntKind.wrap_u32, Int.emod_add_emod, Int.add_emod_emod])); intro gb254 hg w45 hbox hb; have n0_ := Aside0.mk (below_step (by repeat (first | (with_reducible first | exact HB.out | apply below_alloc | apply pw_below_drewN | apply below_drew1) | exact HB.out)) hb); have n1_ := Aside0.mk (hbox); have n2_ := Aside0.mk ((by rw [hg]; exact (below_size (by repeat (first | (with_reducible first | exact HB.out | apply below_alloc | apply pw_below_drewN | apply below_drew1) | exact HB.out))) : w.heap.size ≤ gb254)); have n3_ := Aside0.mk ((by rw [hg]; exact (below_size (by repeat (first | (with_reducible first | exact HB.out | apply below_alloc | apply pw_below_drewN | apply below_drew1) | exact HB.out))) : w.heap.size ≤ gb254)); clear HB; have HB := n0_; have BK254 := n1_; have GW254 := n2_; have GE254 := n3_; clear n0_ n1_ n2_ n3_; clear hb hbox hg; obtain ⟨i046, hi046, _, hsz46, _⟩ := info_parts info5; obtain ⟨hcut46, hA46, hC46⟩ := print_take_of (P := Tryd.prog) (Value.int .u8) 0 23 5 .i64 Tryd.underlying23 hi046 hsz46 A0 c0 l0 (ji2) (of_decide_eq_true (by first | (with_reducible assumption) | assumption)) (of_decide_eq_true (by first | (with_reducible assumption) | assumption)) HC0.out; have HR255 := Aside0.mk (Kd.C_of_reads (h1 := fun _ => rfl) (hA46 _ (Kd.reads_of_C HR0.out))); have HC255 := Aside0.mk hC46; clear hA46 hC46 hi046 hsz46) | ((with_reducible refine gate_dst (N := 15) rfl ?_); refine Kd.R_lit (Kd.int .i64) _ 3 ?hg (N := 15) ?hd (xs := ([8, 4, 4] : List Int)) (inner := [.int .i64 8, .int .i64 4, .int .i64 4]) (ok := fun _ => True) (okp := fun _ => True) ?hr ?hp (fun _ hk => hk) trivial (Below.refl _ _) (Nat.le_refl _) (by simp) ?_; (case hd => rfl); (case hg => rfl); (case hr => first | (go_simp; done) | (go_simp; rfl) | (go_simp; simp only [IntKind.wrap_u32, Int.emod_add_emod, Int.add_emod_emod])); (case hp => exact (Reps.one (show Kd.M (Kd.int .i64) _ _ _ 8 [.int .i64 8] from rfl) (Reps.one (show Kd.M (Kd.int .i64) _ _ _ 4 [.int .i64 4] from rfl) (Reps.one (show Kd.M (Kd.int .i64) _ _ _ 4 [.int .i64 4] from rfl) (Reps.none _ _))))); intro v257 w47 ho48 hb hg_ hnew_; clear hg_ hnew_; (first | rw [← Ny256.out] at ho48 | (simp only [Int.reduceToNat] at ho48; rw [← Ny256.out] at ho48)); have n0_ := Aside0.mk (Kd.R_lower ho48 (below_size (by repeat (first | (with_reducible first | exact HB.out | apply below_alloc | apply pw_below_drewN | apply below_drew1 | refine below_set ?_ GE254.out) | exact HB.out)))); have n1_ := Aside0.mk (blk_below (g := gb254) (o := .cells #[.int .u32 0, .slice none 0 0] 113 (0, 0)) (by (with_reducible repeat (first | refine blk_drewN ?_ _ | refine blk_drew ?_ | refine blk_alloc ?_ _)); exact BK254.out) hb); have n2_ := Aside0.mk (below_step (by repeat (first | (with_reducible first | exact HB.out | apply below_alloc | apply pw_below_drewN | apply below_drew1 | refine below_set ?_ GE254.out) | exact HB.out)) hb); clear BK254; clear HB; have HO258 := n0_; have BK254 := n1_; have HB := n2_; clear n0_ n1_ n2_; clear hb ho48; obtain ⟨Ao49, co49, eo49⟩ := Kd.R_slice HO258.out; subst eo49) | ((with_reducible refine gate_callee (f := 65) rfl ?_); refine goesL_ (some 16) rfl rfl Tryd.func65 (by kernel_rfl) rfl #[.slice A0 (l0.take ((ji2) : Int).toNat).length c0, .slice Ao49 y256.length co49] rfl (by (try simp only [List.map_toArray, List.map_cons, List.map_nil]); first | done | (rw [show (l0.take ((ji2) : Int).toNat).length = (ji2).toNat from (by rw [List.length_take]; have h_ : ((ji2) : Int) ≤ (l0.length : Int) := of_decide_eq_true (by first | (with_reducible assumption) | assumption); omega)] <;> rfl) | (simp only [hji2]; rfl) | rfl | (simp only [List.length_drop, List.length_take]; rfl) | (simp only [List.length_drop, List.length_take]; (repeat rw [Nat.min_eq_left (by simp only [eq_iff_iff, iff_true] at *; omega)]); rfl)) ?_; (with_reducible refine (wire_Take.calls _ _ (l0.take ((ji2) : Int).toNat) _ _ y256 t259 t260 true _ ?side1 ?side2 ?side3 ?side4 A5.out).mono ?_); (case side1 => repeat (first | exact (Kd.C_below HR255.out HB.out) | (with_reducible refine Kd.C_alloc ?_ _) | (with_reducible refine Kd.C_drewN ?_ _) | (with_reducible refine Kd.C_drew ?_))); (case side2 => exact HC255.out); (case side3 => repeat (first | exact (Kd.R_reads' HO258.out).2.2 | (with_reducible refine Kd.C_alloc ?_ _) | (with_reducible refine Kd.C_drewN ?_ _) | (with_reducible refine Kd.C_drew ?_))); (case side4 => exact (Kd.R_reads' HO258.out).2.1); rintro e w50 ⟨v262, v264, rfl, ho0, ho1, hb⟩; refine ⟨_, rfl, ?_⟩; have n0_ := Aside0.mk (Kd.R_below (by (with_reducible repeat (first | apply Kd.R_alloc | apply Kd.R_drewN | apply Kd.R_drew)); exact HO258.out) hb); have n1_ := Aside0.mk (Kd.R_lower ho0 (below_size (by repeat (first | (with_reducible first | exact HB.out | apply below_alloc | apply pw_below_drewN | apply below_drew1 | refine below_set ?_ GE254.out) | exact HB.out)))); have n2_ := Aside0.mk (Kd.R_lower ho1 (below_size (by repeat (first | (with_reducible first | exact HB.out | apply below_alloc | apply pw_below_drewN | apply below_drew1 | refine below_set ?_ GE254.out) | exact HB.out)))); have n3_ := Aside0.mk (blk_below (g := gb254) (o := .cells #[.int .u32 0, .slice none 0 0] 113 (0, 0)) (by (with_reducible repeat (first | refine blk_drewN ?_ _ | refine blk_drew ?_ | refine blk_alloc ?_ _)); exact BK254.out) hb); have n4_ := Aside0.mk (below_step (by repeat (first | (with_reducible first | exact HB.out | apply below_alloc | apply pw_below_drewN | apply below_drew1 | refine below_set ?_ GE254.out) | exact HB.out)) hb); clear HO258; clear BK254; clear HB; have HO258 := n0_; have HO263 := n1_; have HO265 := n2_; have BK254 := n3_; have HB := n4_; clear n0_ n1_ n2_ n3_ n4_; (try clear hb); (try clear hb2); (try clear hk); (try clear hi); (try clear ho0); (try clear ho1); obtain ⟨Ao51, co51, eo51⟩ := Kd.R_slice HO263.out; subst eo51; have p266 : 0 ≤ (0 : Int) := (by omega); have q266 : 0 < (t259.length : Int) := of_decide_eq_true (by first | (with_reducible assumption) | assumption); obtain ⟨ad266, e266, hx266_0⟩ := Kd.at_int (Kd.R_reads' HO263.out).2.2 0 p266 q266; cases e266; have qi266 : (0 < t259.length) = True := eq_true (by omega); (try rw [show ((0 : Int)).toNat = 0 from rfl] at hx266_0); (try rw [Addr.add_zero'] at hx266_0); replace p266 := eq_true p266; replace q266 := eq_true q266; have hcz52_0 : w50.cell? ⟨gb254, 0, none⟩ = some (.int .u32 0) := (blk_cell BK254.out 0).trans rfl; have hcz52_1 : w50.cell? ⟨gb254, 1, none⟩ = some (.slice none 0 0) := (blk_cell BK254.out 1).trans rfl; have hfz52_0 := blk_frozen BK254.out 0; have hfz52_1 := blk_frozen BK254.out 1))
      refine bodyPost_ret (results_ctt rfl _ _ gb254 113 #[.int .u32 0, .slice none 0 0] (0, 0) _ rfl (by (with_reducible repeat (first | refine blk_drewN ?_ _ | refine blk_drew ?_ | refine blk_alloc ?_ _)); refine blk_put (cs := #[.int .u32 0, .slice none 0 0]) ?_ 1 _ rfl; (with_reducible repeat (first | refine blk_drewN ?_ _ | refine blk_drew ?_ | refine blk_alloc ?_ _)); refine blk_put (cs := #[.int .u32 0, .slice none 0 0]) ?_ 0 _ rfl; (with_reducible repeat (first | refine blk_drewN ?_ _ | refine blk_drew ?_ | refine blk_alloc ?_ _)); exact BK254.out) Tryd.underlying113 rfl (by kernel_rfl)) rfl ?_
      exact ⟨_, by first | rfl | (simp [errW_none, errW_some] <;> rfl) | (simp only [← hji2]; first | rfl | (simp [errW_none, errW_some] <;> rfl)) | (simp [*, errW_none, errW_some] <;> rfl), by first | exact Kd.R_nil _ _ _ _ _ | exact Kd.N_nil _ _ _ _ _ | exact Kd.V_nil _ _ _ _ _ | exact Kd.Q_nil _ _ _ _ _ | exact Kd.S_nil _ _ _ _ _, by repeat (first | (with_reducible first | exact HB.out | apply below_alloc | apply pw_below_drewN | apply below_drew1 | refine below_set ?_ GE254.out) | exact HB.out)⟩
    ·rw [if_neg c7] at H
     exact absurd H (by simp)
   ·replace c6 := Bool.eq_false_iff.mpr c6
    subst c6
    have H1 : (some (0, ([] : List Int), 0, 70)) = some (r1, r2, r3, r4) := by rw [if_neg (show ¬ (false = true) by decide)] at H; exact H
    clear H
    have H := H1
    clear H1
    simp only [Option.some.injEq, Prod.mk.injEq] at H
    obtain ⟨rfl, rfl, rfl, rfl⟩ := H
    go_enter Tryd.func54, Tryd.ntmps54
    go_wp2_with (first | ((with_reducible refine gate_dst (N := 2) rfl ?_); refine box_event ?hg (N := 2) ?hd (cs := #[.int .u32 0, .slice none 0 0]) (t := 113) ?hr ?_; (case hd => rfl); (case hg => rfl); (case hr => first | (go_simp; done) | (go_simp; rfl) | (go_simp; simp only [IntKind.wrap_u32, Int.emod_add_emod, Int.add_emod_emod])); intro gb254 hg w53 hbox hb; have n0_ := Aside0.mk (below_step (by repeat (first | (with_reducible first | exact HB.out | apply below_alloc | apply pw_below_drewN | apply below_drew1) | exact HB.out)) hb); have n1_ := Aside0.mk (hbox); have n2_ := Aside0.mk ((by rw [hg]; exact (below_size (by repeat (first | (with_reducible first | exact HB.out | apply below_alloc | apply pw_below_drewN | apply below_drew1) | exact HB.out))) : w.heap.size ≤ gb254)); have n3_ := Aside0.mk ((by rw [hg]; exact (below_size (by repeat (first | (with_reducible first | exact HB.out | apply below_alloc | apply pw_below_drewN | apply below_drew1) | exact HB.out))) : w.heap.size ≤ gb254)); clear HB; have HB := n0_; have BK254 := n1_; have GW254 := n2_; have GE254 := n3_; clear n0_ n1_ n2_ n3_; clear hb hbox hg; obtain ⟨i054, hi054, _, hsz54, _⟩ := info_parts info5; obtain ⟨hcut54, hA54, hC54⟩ := print_take_of (P := Tryd.prog) (Value.int .u8) 0 23 5 .i64 Tryd.underlying23 hi054 hsz54 A0 c0 l0 (ji2) (of_decide_eq_true (by first | (with_reducible assumption) | assumption)) (of_decide_eq_true (by first | (with_reducible assumption) | assumption)) HC0.out; have HR255 := Aside0.mk (Kd.C_of_reads (h1 := fun _ => rfl) (hA54 _ (Kd.reads_of_C HR0.out))); have HC255 := Aside0.mk hC54; clear hA54 hC54 hi054 hsz54) | ((with_reducible refine gate_dst (N := 15) rfl ?_); refine Kd.R_lit (Kd.int .i64) _ 3 ?hg (N := 15) ?hd (xs := ([8, 4, 4] : List Int)) (inner := [.int .i64 8, .int .i64 4, .int .i64 4]) (ok := fun _ => True) (okp := fun _ => True) ?hr ?hp (fun _ hk => hk) trivial (Below.refl _ _) (Nat.le_refl _) (by simp) ?_; (case hd => rfl); (case hg => rfl); (case hr => first | (go_simp; done) | (go_simp; rfl) | (go_simp; simp only [IntKind.wrap_u32, Int.emod_add_emod, Int.add_emod_emod])); (case hp => exact (Reps.one (show Kd.M (Kd.int .i64) _ _ _ 8 [.int .i64 8] from rfl) (Reps.one (show Kd.M (Kd.int .i64) _ _ _ 4 [.int .i64 4] from rfl) (Reps.one (show Kd.M (Kd.int .i64) _ _ _ 4 [.int .i64 4] from rfl) (Reps.none _ _))))); intro v257 w55 ho56 hb hg_ hnew_; clear hg_ hnew_; (first | rw [← Ny256.out] at ho56 | (simp only [Int.reduceToNat] at ho56; rw [← Ny256.out] at ho56)); have n0_ := Aside0.mk (Kd.R_lower ho56 (below_size (by repeat (first | (with_reducible first | exact HB.out | apply below_alloc | apply pw_below_drewN | apply below_drew1 | refine below_set ?_ GE254.out) | exact HB.out)))); have n1_ := Aside0.mk (blk_below (g := gb254) (o := .cells #[.int .u32 0, .slice none 0 0] 113 (0, 0)) (by (with_reducible repeat (first | refine blk_drewN ?_ _ | refine blk_drew ?_ | refine blk_alloc ?_ _)); exact BK254.out) hb); have n2_ := Aside0.mk (below_step (by repeat (first | (with_reducible first | exact HB.out | apply below_alloc | apply pw_below_drewN | apply below_drew1 | refine below_set ?_ GE254.out) | exact HB.out)) hb); clear BK254; clear HB; have HO258 := n0_; have BK254 := n1_; have HB := n2_; clear n0_ n1_ n2_; clear hb ho56; obtain ⟨Ao57, co57, eo57⟩ := Kd.R_slice HO258.out; subst eo57) | ((with_reducible refine gate_callee (f := 65) rfl ?_); refine goesL_ (some 16) rfl rfl Tryd.func65 (by kernel_rfl) rfl #[.slice A0 (l0.take ((ji2) : Int).toNat).length c0, .slice Ao57 y256.length co57] rfl (by (try simp only [List.map_toArray, List.map_cons, List.map_nil]); first | done | (rw [show (l0.take ((ji2) : Int).toNat).length = (ji2).toNat from (by rw [List.length_take]; have h_ : ((ji2) : Int) ≤ (l0.length : Int) := of_decide_eq_true (by first | (with_reducible assumption) | assumption); omega)] <;> rfl) | (simp only [hji2]; rfl) | rfl | (simp only [List.length_drop, List.length_take]; rfl) | (simp only [List.length_drop, List.length_take]; (repeat rw [Nat.min_eq_left (by simp only [eq_iff_iff, iff_true] at *; omega)]); rfl)) ?_; (with_reducible refine (wire_Take.calls _ _ (l0.take ((ji2) : Int).toNat) _ _ y256 t259 t260 false _ ?side1 ?side2 ?side3 ?side4 A5.out).mono ?_); (case side1 => repeat (first | exact (Kd.C_below HR255.out HB.out) | (with_reducible refine Kd.C_alloc ?_ _) | (with_reducible refine Kd.C_drewN ?_ _) | (with_reducible refine Kd.C_drew ?_))); (case side2 => exact HC255.out); (case side3 => repeat (first | exact (Kd.R_reads' HO258.out).2.2 | (with_reducible refine Kd.C_alloc ?_ _) | (with_reducible refine Kd.C_drewN ?_ _) | (with_reducible refine Kd.C_drew ?_))); (case side4 => exact (Kd.R_reads' HO258.out).2.1); rintro e w58 ⟨v262, v264, rfl, ho0, ho1, hb⟩; refine ⟨_, rfl, ?_⟩; have n0_ := Aside0.mk (Kd.R_below (by (with_reducible repeat (first | apply Kd.R_alloc | apply Kd.R_drewN | apply Kd.R_drew)); exact HO258.out) hb); have n1_ := Aside0.mk (Kd.R_lower ho0 (below_size (by repeat (first | (with_reducible first | exact HB.out | apply below_alloc | apply pw_below_drewN | apply below_drew1 | refine below_set ?_ GE254.out) | exact HB.out)))); have n2_ := Aside0.mk (Kd.R_lower ho1 (below_size (by repeat (first | (with_reducible first | exact HB.out | apply below_alloc | apply pw_below_drewN | apply below_drew1 | refine below_set ?_ GE254.out) | exact HB.out)))); have n3_ := Aside0.mk (blk_below (g := gb254) (o := .cells #[.int .u32 0, .slice none 0 0] 113 (0, 0)) (by (with_reducible repeat (first | refine blk_drewN ?_ _ | refine blk_drew ?_ | refine blk_alloc ?_ _)); exact BK254.out) hb); have n4_ := Aside0.mk (below_step (by repeat (first | (with_reducible first | exact HB.out | apply below_alloc | apply pw_below_drewN | apply below_drew1 | refine below_set ?_ GE254.out) | exact HB.out)) hb); clear HO258; clear BK254; clear HB; have HO258 := n0_; have HO263 := n1_; have HO265 := n2_; have BK254 := n3_; have HB := n4_; clear n0_ n1_ n2_ n3_ n4_; (try clear hb); (try clear hb2); (try clear hk); (try clear hi); (try clear ho0); (try clear ho1); have hcz59_0 : w58.cell? ⟨gb254, 0, none⟩ = some (.int .u32 0) := (blk_cell BK254.out 0).trans rfl; have hcz59_1 : w58.cell? ⟨gb254, 1, none⟩ = some (.slice none 0 0) := (blk_cell BK254.out 1).trans rfl; have hfz59_0 := blk_frozen BK254.out 0; have hfz59_1 := blk_frozen BK254.out 1))
    refine bodyPost_ret (results_ctt rfl _ _ gb254 113 #[.int .u32 0, .slice none 0 0] (0, 0) _ rfl (by (with_reducible repeat (first | refine blk_drewN ?_ _ | refine blk_drew ?_ | refine blk_alloc ?_ _)); refine blk_put (cs := #[.int .u32 0, .slice none 0 0]) ?_ 1 _ rfl; (with_reducible repeat (first | refine blk_drewN ?_ _ | refine blk_drew ?_ | refine blk_alloc ?_ _)); refine blk_put (cs := #[.int .u32 0, .slice none 0 0]) ?_ 0 _ rfl; (with_reducible repeat (first | refine blk_drewN ?_ _ | refine blk_drew ?_ | refine blk_alloc ?_ _)); exact BK254.out) Tryd.underlying113 rfl (by kernel_rfl)) rfl ?_
    exact ⟨_, by first | rfl | (simp [errW_none, errW_some] <;> rfl) | (simp only [← hji2]; first | rfl | (simp [errW_none, errW_some] <;> rfl)) | (simp [*, errW_none, errW_some] <;> rfl), by first | exact Kd.R_nil _ _ _ _ _ | exact Kd.N_nil _ _ _ _ _ | exact Kd.V_nil _ _ _ _ _ | exact Kd.Q_nil _ _ _ _ _ | exact Kd.S_nil _ _ _ _ _, by repeat (first | (with_reducible first | exact HB.out | apply below_alloc | apply pw_below_drewN | apply below_drew1 | refine below_set ?_ GE254.out) | exact HB.out)⟩
  ·rw [if_neg c4] at H
   exact absurd H (by simp)
 ·rw [if_neg c3] at H
  exact absurd H (by simp)
def greet_Reply.f (k : Nat) (a0 : Int) (a1 : Int) (l2 : List Int) : Option (List Int) := (wire_Pack.f k (([8, 4, 4, 4] : List Int)) (([1100100111001001, IntKind.u64.wrap (a0), IntKind.u64.wrap (a1), IntKind.u64.wrap ((l2.length : Int))] : List Int))).bind fun t280 => (if t280.length + l2.length < 140737488355328 then (some (t280 ++ l2)) else (none))
set_option maxHeartbeats 8000000 in
set_option maxRecDepth 100000 in
theorem greet_Reply.calls (k : Nat) (a0 : Int) (a1 : Int) (A2 : Option Addr) (c2 : Nat) (l2 : List Int) (r : List Int) (w : World) (hr2 : Kd.C (Kd.int .u8) w A2 l2.length l2) (hc2 : l2.length ≤ c2) (h : greet_Reply.f k a0 a1 l2 = some r) :
  Calls Tryd.prog 79 #[.int .u32 a0, .int .u32 a1, .slice A2 l2.length c2] w fun e w' => ∃ v0_ : Value, e = .returned (v0_) ∧ Kd.R (Kd.int .u8) 5 w' w.heap.size (fun _ => True) v0_ r ∧ Below w.heap.size w w' := by
 have HR2 := Aside0.mk hr2
 have HC2 := Aside0.mk hc2
 clear hr2 hc2
 have HB := Aside0.mk (Below.refl w.heap.size w)
 have H : ((wire_Pack.f k (([8, 4, 4, 4] : List Int)) (([1100100111001001, IntKind.u64.wrap (a0), IntKind.u64.wrap (a1), IntKind.u64.wrap ((l2.length : Int))] : List Int))).bind fun t280 => (if t280.length + l2.length < 140737488355328 then (some (t280 ++ l2)) else (none))) = some r := h
 clear h
 obtain ⟨y274, hy274⟩ : ∃ y_ : List Int, y_ = (([8, 4, 4, 4] : List Int)) := ⟨_, rfl⟩
 replace H : ((wire_Pack.f k y274 (([1100100111001001, IntKind.u64.wrap (a0), IntKind.u64.wrap (a1), IntKind.u64.wrap ((l2.length : Int))] : List Int))).bind fun t280 => (if t280.length + l2.length < 140737488355328 then (some (t280 ++ l2)) else (none))) = some r := by first | (rw [hy274]; with_reducible exact H) | (have H2_ := (Option.bind_some _ _).symm.trans H; rw [hy274]; with_reducible exact H2_) | (have H2_ := (Option.bind_some _ _).symm.trans H; with_reducible exact H2_) | with_reducible exact H | (rw [hy274]; exact H) | exact H
 have Ny274 := Aside0.mk hy274
 clear hy274
 obtain ⟨y277, hy277⟩ : ∃ y_ : List Int, y_ = (([1100100111001001, IntKind.u64.wrap (a0), IntKind.u64.wrap (a1), IntKind.u64.wrap ((l2.length : Int))] : List Int)) := ⟨_, rfl⟩
 replace H : ((wire_Pack.f k y274 y277).bind fun t280 => (if t280.length + l2.length < 140737488355328 then (some (t280 ++ l2)) else (none))) = some r := by first | (rw [hy277]; with_reducible exact H) | (have H2_ := (Option.bind_some _ _).symm.trans H; rw [hy277]; with_reducible exact H2_) | (have H2_ := (Option.bind_some _ _).symm.trans H; with_reducible exact H2_) | with_reducible exact H | (rw [hy277]; exact H) | exact H
 have Ny277 := Aside0.mk hy277
 clear hy277
 replace H := Option.bind_eq_some_iff.mp H
 obtain ⟨t280, A40, H⟩ := H
 replace H : (if t280.length + l2.length < 140737488355328 then (some (t280 ++ l2)) else (none)) = some r := H
 have A4 := Aside0.mk A40
 clear A40
 by_cases c5 : t280.length + l2.length < 140737488355328
 ·rw [if_pos c5] at H
  have LMc5 := Aside0.mk c5
  clear c5
  obtain ⟨y283, hy283⟩ : ∃ y_ : List Int, y_ = (t280 ++ l2) := ⟨_, rfl⟩
  replace H : (some y283) = some r := by first | (rw [hy283]; with_reducible exact H) | (have H2_ := (Option.bind_some _ _).symm.trans H; rw [hy283]; with_reducible exact H2_) | (have H2_ := (Option.bind_some _ _).symm.trans H; with_reducible exact H2_) | with_reducible exact H | (rw [hy283]; exact H) | exact H
  have Ny283 := Aside0.mk hy283
  clear hy283
  obtain rfl := Option.some.inj H
  go_enter Tryd.func79, Tryd.ntmps79
  go_wp2_with (first | ((with_reducible refine gate_dst (N := 8) rfl ?_); refine Kd.R_lit (Kd.int .i64) _ 3 ?hg (N := 8) ?hd (xs := ([8, 4, 4, 4] : List Int)) (inner := [.int .i64 8, .int .i64 4, .int .i64 4, .int .i64 4]) (ok := fun _ => True) (okp := fun _ => True) ?hr ?hp (fun _ hk => hk) trivial (Below.refl _ _) (Nat.le_refl _) (by simp) ?_; (case hd => rfl); (case hg => rfl); (case hr => first | (go_simp; done) | (go_simp; rfl) | (go_simp; simp only [IntKind.wrap_u32, Int.emod_add_emod, Int.add_emod_emod])); (case hp => exact (Reps.one (show Kd.M (Kd.int .i64) _ _ _ 8 [.int .i64 8] from rfl) (Reps.one (show Kd.M (Kd.int .i64) _ _ _ 4 [.int .i64 4] from rfl) (Reps.one (show Kd.M (Kd.int .i64) _ _ _ 4 [.int .i64 4] from rfl) (Reps.one (show Kd.M (Kd.int .i64) _ _ _ 4 [.int .i64 4] from rfl) (Reps.none _ _)))))); intro v275 w6 ho7 hb hg_ hnew_; clear hg_ hnew_; (first | rw [← Ny274.out] at ho7 | (simp only [Int.reduceToNat] at ho7; rw [← Ny274.out] at ho7)); have n0_ := Aside0.mk (Kd.R_lower ho7 (below_size (by repeat (first | (with_reducible first | exact HB.out | apply below_alloc | apply pw_below_drewN | apply below_drew1) | exact HB.out)))); have n1_ := Aside0.mk (below_step (by repeat (first | (with_reducible first | exact HB.out | apply below_alloc | apply pw_below_drewN | apply below_drew1) | exact HB.out)) hb); clear HB; have HO276 := n0_; have HB := n1_; clear n0_ n1_; clear hb ho7) | ((with_reducible refine gate_dst (N := 16) rfl ?_); refine Kd.R_lit (Kd.int .u64) _ 42 ?hg (N := 16) ?hd (xs := ([1100100111001001, IntKind.u64.wrap (a0), IntKind.u64.wrap (a1), IntKind.u64.wrap ((l2.length : Int))] : List Int)) (inner := [.int .u64 1100100111001001, .int .u64 (IntKind.u64.wrap (a0)), .int .u64 (IntKind.u64.wrap (a1)), .int .u64 (IntKind.u64.wrap ((l2.length : Int)))]) (ok := fun _ => True) (okp := fun _ => True) ?hr ?hp (fun _ hk => hk) trivial (Below.refl _ _) (Nat.le_refl _) (by simp) ?_; (case hd => rfl); (case hg => rfl); (case hr => first | (go_simp; done) | (go_simp; rfl) | (go_simp; simp only [IntKind.wrap_u32, Int.emod_add_emod, Int.add_emod_emod])); (case hp => exact (Reps.one (show Kd.M (Kd.int .u64) _ _ _ 1100100111001001 [.int .u64 1100100111001001] from rfl) (Reps.one (show Kd.M (Kd.int .u64) _ _ _ (IntKind.u64.wrap (a0)) [.int .u64 (IntKind.u64.wrap (a0))] from rfl) (Reps.one (show Kd.M (Kd.int .u64) _ _ _ (IntKind.u64.wrap (a1)) [.int .u64 (IntKind.u64.wrap (a1))] from rfl) (Reps.one (show Kd.M (Kd.int .u64) _ _ _ (IntKind.u64.wrap ((l2.length : Int))) [.int .u64 (IntKind.u64.wrap ((l2.length : Int)))] from rfl) (Reps.none _ _)))))); intro v278 w8 ho9 hb hg_ hnew_; clear hg_ hnew_; (first | rw [← Ny277.out] at ho9 | (simp only [Int.reduceToNat] at ho9; rw [← Ny277.out] at ho9)); have n0_ := Aside0.mk (Kd.R_below (by (with_reducible repeat (first | apply Kd.R_alloc | apply Kd.R_drewN | apply Kd.R_drew)); exact HO276.out) hb); have n1_ := Aside0.mk (Kd.R_lower ho9 (below_size (by repeat (first | (with_reducible first | exact HB.out | apply below_alloc | apply pw_below_drewN | apply below_drew1) | exact HB.out)))); have n2_ := Aside0.mk (below_step (by repeat (first | (with_reducible first | exact HB.out | apply below_alloc | apply pw_below_drewN | apply below_drew1) | exact HB.out)) hb); clear HO276; clear HB; have HO276 := n0_; have HO279 := n1_; have HB := n2_; clear n0_ n1_ n2_; clear hb ho9; obtain ⟨Ao10, co10, eo10⟩ := Kd.R_slice HO276.out; subst eo10; obtain ⟨Ao11, co11, eo11⟩ := Kd.R_slice HO279.out; subst eo11) | ((with_reducible refine gate_callee (f := 38) rfl ?_); refine goesL_ (some 17) rfl rfl Tryd.func38 (by kernel_rfl) rfl #[.slice Ao10 y274.length co10, .slice Ao11 y277.length co11] rfl (by (try simp only [List.map_toArray, List.map_cons, List.map_nil]); first | done | rfl | (simp only [List.length_drop, List.length_take]; rfl) | (simp only [List.length_drop, List.length_take]; (repeat rw [Nat.min_eq_left (by simp only [eq_iff_iff, iff_true] at *; omega)]); rfl)) ?_; (with_reducible refine (wire_Pack.calls k _ _ y274 _ _ y277 t280 _ ?side1 ?side2 ?side3 ?side4 A4.out).mono ?_); (case side1 => repeat (first | exact (Kd.R_reads' HO276.out).2.2 | (with_reducible refine Kd.C_alloc ?_ _) | (with_reducible refine Kd.C_drewN ?_ _) | (with_reducible refine Kd.C_drew ?_))); (case side2 => exact (Kd.R_reads' HO276.out).2.1); (case side3 => repeat (first | exact (Kd.R_reads' HO279.out).2.2 | (with_reducible refine Kd.C_alloc ?_ _) | (with_reducible refine Kd.C_drewN ?_ _) | (with_reducible refine Kd.C_drew ?_))); (case side4 => exact (Kd.R_reads' HO279.out).2.1); rintro e w12 ⟨v281, rfl, ho0, hb⟩; refine ⟨_, rfl, ?_⟩; have n0_ := Aside0.mk (Kd.R_below (by (with_reducible repeat (first | apply Kd.R_alloc | apply Kd.R_drewN | apply Kd.R_drew)); exact HO276.out) hb); have n1_ := Aside0.mk (Kd.R_below (by (with_reducible repeat (first | apply Kd.R_alloc | apply Kd.R_drewN | apply Kd.R_drew)); exact HO279.out) hb); have n2_ := Aside0.mk (Kd.R_lower ho0 (below_size (by repeat (first | (with_reducible first | exact HB.out | apply below_alloc | apply pw_below_drewN | apply below_drew1) | exact HB.out)))); have n3_ := Aside0.mk (below_step (by repeat (first | (with_reducible first | exact HB.out | apply below_alloc | apply pw_below_drewN | apply below_drew1) | exact HB.out)) hb); clear HO276; clear HO279; clear HB; have HO276 := n0_; have HO279 := n1_; have HO282 := n2_; have HB := n3_; clear n0_ n1_ n2_ n3_; (try clear hb); (try clear hb2); (try clear hk); (try clear hi); (try clear ho0)) | ((with_reducible refine gate_builtin (b := .append) (xs := #[.tmp 18, .tmp 19]) rfl ?_); at_builtin; refine Kd.R_append_rows (Kd.int .u8) (w0 := w) w.heap.size rfl (.tmp 18) (.tmp 19) 23 5 (.int .u8 0) 1 rfl Tryd.underlying23 info5 rfl (by decide) (by omega) v281 t280 l2 _ _ _ (fun _ => True) (fun _ => False) rfl rfl ?aO ?aR (fun _ _ h => h) (fun _ h => h.elim) ?aF ?aB ?aS ?aL ?_; (case aR => repeat (first | exact (Kd.C_below HR2.out HB.out) | (with_reducible refine Kd.C_alloc ?_ _) | (with_reducible refine Kd.C_drewN ?_ _) | (with_reducible refine Kd.C_drew ?_))); (case aB => exact (by repeat (first | (with_reducible first | exact HB.out | apply below_alloc | apply pw_below_drewN | apply below_drew1) | exact HB.out))); (case aF => exact (fun _ _ => trivial)); (case aO => exact (by (with_reducible repeat (first | apply Kd.R_alloc | apply Kd.R_drewN | apply Kd.R_drew)); exact HO282.out)); (case aS => exact (below_size (by repeat (first | (with_reducible first | exact HB.out | apply below_alloc | apply pw_below_drewN | apply below_drew1) | exact HB.out)))); (case aL => have := LMc5.out; omega); intro v284 w13 ho hb hg hat; rw [← Ny283.out] at ho; have n0_ := Aside0.mk (Kd.R_over' (by (with_reducible repeat (first | apply Kd.R_alloc | apply Kd.R_drewN | apply Kd.R_drew)); exact HO276.out) (Kd.R_typed (by (with_reducible repeat (first | apply Kd.R_alloc | apply Kd.R_drewN | apply Kd.R_drew)); exact HO282.out)) (by decide) hg); have n1_ := Aside0.mk (Kd.R_over' (by (with_reducible repeat (first | apply Kd.R_alloc | apply Kd.R_drewN | apply Kd.R_drew)); exact HO279.out) (Kd.R_typed (by (with_reducible repeat (first | apply Kd.R_alloc | apply Kd.R_drewN | apply Kd.R_drew)); exact HO282.out)) (by decide) hg); have n2_ := Aside0.mk (hb); have n3_ := Aside0.mk (ho); clear HO276; clear HO279; clear HB; clear HO282; have HO276 := n0_; have HO279 := n1_; have HB := n2_; have HO285 := n3_; clear n0_ n1_ n2_ n3_; clear ho hb hg hat))
  go_ret
  exact ⟨_, by first | rfl | (simp [errW_none, errW_some] <;> rfl) | (simp [*, errW_none, errW_some] <;> rfl), by (with_reducible repeat (first | apply Kd.R_alloc | apply Kd.R_drewN | apply Kd.R_drew)); exact HO285.out, by repeat (first | (with_reducible first | exact HB.out | apply below_alloc | apply pw_below_drewN | apply below_drew1) | exact HB.out)⟩
 ·rw [if_neg c5] at H
  exact absurd H (by simp)
end Go.Proofs.YtgljicdpcapgnaaDoor.PBase
namespace Go.Proofs.YtgljicdpcapgnaaDoor.PBase
open Go.RowKit Go.Proofs.YtgljicdpcapgnaaDoorW.PrintWords Go.Proofs.YtgljicdpcapgnaaDoorW.PrintLast Go.Proofs.YtgljicdpcapgnaaDoorW.PrintMore
attribute [local go_sem] max2_int min2_int max_two min_two max_three min_three max_four min_four   -- for this text's walks alone
set_option linter.unusedVariables false
set_option linter.unusedSimpArgs false
mutual
def greet_Asked.j0 : Nat → List Int → List Int → Bool → Option (ByteArray × List Int × Int)
 | 0, _, _, _ => none
 | k + 1, x5, x6, x34 => if x34 = true then (some ((⟨#[]⟩ : ByteArray), ([] : List Int), 74)) else (if 0 < (x5.length : Int) then (if 0 ≤ (rd x5 0) then (if (rd x5 0) ≤ (x6.length : Int) then ((some (x6.take ((rd x5 0) : Int).toNat : List Int)).bind fun y299 => ((wire_Take.f (x6.drop ((rd x5 0) : Int).toNat) (([2] : List Int))).bind fun bt311 => (if bt311.2.2 = true then (if 0 < (bt311.1.length : Int) then (greet_Asked.j1 k bt311.2.1 (strOfNums y299) ((bt311.2.1.length : Int) != (wrap64 (2 * (wrap64 (rd bt311.1 0)))))) else (none)) else (greet_Asked.j1 k bt311.2.1 (strOfNums y299) true)))) else (none)) else (none)) else (none))
def greet_Asked.j1 : Nat → List Int → ByteArray → Bool → Option (ByteArray × List Int × Int)
 | 0, _, _, _ => none
 | k + 1, x6, x8, x63 => if x63 = true then (some ((⟨#[]⟩ : ByteArray), ([] : List Int), 74)) else (greet_Asked.l0 k x6 x8 ([] : List Int) 1)
def greet_Asked.l0 : Nat → List Int → ByteArray → List Int → Int → Option (ByteArray × List Int × Int)
 | 0, _, _, _, _ => none
 | k + 1, x6, x8, x9, x10 => if x10 < (x6.length : Int) then (if 0 ≤ (wrap64 (x10 - 1)) then (if (wrap64 (x10 - 1)) < (x6.length : Int) then (if 0 ≤ x10 then (if x9.length < 70368744177664 then (greet_Asked.l0 k x6 x8 (x9 ++ [Go.bits .or .u16 (IntKind.u16.wrap ((IntKind.u16.wrap (rd x6 (wrap64 (x10 - 1)))) * 256)) (IntKind.u16.wrap (rd x6 x10))]) (wrap64 (x10 + 2))) else (none)) else (none)) else (none)) else (none)) else (some (x8, x9, 0))
end
def greet_Asked.f (k : Nat) (l0 : List Int) : Option (ByteArray × List Int × Int) := (wire_Take.f l0 (([4] : List Int))).bind fun bt289 => (if bt289.2.2 = true then (if 0 < (bt289.1.length : Int) then (if (rd bt289.1 0) > 255 then (greet_Asked.j0 k bt289.1 bt289.2.1 true) else (greet_Asked.j0 k bt289.1 bt289.2.1 (decide ((wrap64 (rd bt289.1 0)) > (bt289.2.1.length : Int))))) else (none)) else (greet_Asked.j0 k bt289.1 bt289.2.1 true))
def greet_Asked.T12 : Bool × List (List Nat × List Nat) := (true, [([], []), ([], []), ([], []), ([2], [2]), ([1, 3], [1, 3]), ([4], [4]), ([5], [5]), ([6], [6]), ([], []), ([], []), ([8, 9], [8, 9]), ([10], [10]), ([11], [11]), ([7, 12], [7, 12]), ([13], [13]), ([0, 14], [0, 14]), ([15, 15, 0, 1, 2, 3, 4, 5, 6, 7, 8, 9, 10, 11, 12, 13, 14, 15], [0, 15])])
def greet_Asked.B12 : List Nat := [0, 0, 0, 4, 14, 30, 62, 126, 0, 0, 768, 1792, 3840, 8190, 16382, 32767, 65535]
theorem greet_Asked.tab12 : rtab .any (opsOf Tryd.f82 12) = greet_Asked.T12 := by kernel_rfl
theorem greet_Asked.bits12 : waitsOk greet_Asked.T12.2 greet_Asked.B12 = true := by kernel_rfl
set_option maxHeartbeats 8000000 in
set_option maxRecDepth 100000 in
theorem greet_Asked.calls (k : Nat) (A0 : Option Addr) (c0 : Nat) (l0 : List Int) (r1 : ByteArray) (r2 : List Int) (r3 : Int) (w : World) (hr0 : Kd.C (Kd.int .u8) w A0 l0.length l0) (hc0 : l0.length ≤ c0) (h : greet_Asked.f k l0 = some (r1, r2, r3)) :
  Calls Tryd.prog 82 #[.slice A0 l0.length c0] w fun e w' => ∃ v1_ : Value, e = .returned (.tuple #[.string r1, v1_, .int .u16 r3]) ∧ Kd.R (Kd.int .u16) 56 w' w.heap.size (fun _ => True) v1_ r2 ∧ Below w.heap.size w w' := by
 have HR0 := Aside0.mk hr0
 have HC0 := Aside0.mk hc0
 clear hr0 hc0
 have HB := Aside0.mk (Below.refl w.heap.size w)
 have H : ((wire_Take.f l0 (([4] : List Int))).bind fun bt289 => (if bt289.2.2 = true then (if 0 < (bt289.1.length : Int) then (if (rd bt289.1 0) > 255 then (greet_Asked.j0 k bt289.1 bt289.2.1 true) else (greet_Asked.j0 k bt289.1 bt289.2.1 (decide ((wrap64 (rd bt289.1 0)) > (bt289.2.1.length : Int))))) else (none)) else (greet_Asked.j0 k bt289.1 bt289.2.1 true))) = some (r1, r2, r3) := h
 clear h
 obtain ⟨y286, hy286⟩ : ∃ y_ : List Int, y_ = (([4] : List Int)) := ⟨_, rfl⟩
 replace H : ((wire_Take.f l0 y286).bind fun bt289 => (if bt289.2.2 = true then (if 0 < (bt289.1.length : Int) then (if (rd bt289.1 0) > 255 then (greet_Asked.j0 k bt289.1 bt289.2.1 true) else (greet_Asked.j0 k bt289.1 bt289.2.1 (decide ((wrap64 (rd bt289.1 0)) > (bt289.2.1.length : Int))))) else (none)) else (greet_Asked.j0 k bt289.1 bt289.2.1 true))) = some (r1, r2, r3) := by first | (rw [hy286]; with_reducible exact H) | (have H2_ := (Option.bind_some _ _).symm.trans H; rw [hy286]; with_reducible exact H2_) | (have H2_ := (Option.bind_some _ _).symm.trans H; with_reducible exact H2_) | with_reducible exact H | (rw [hy286]; exact H) | exact H
 have Ny286 := Aside0.mk hy286
 clear hy286
 replace H := Option.bind_eq_some_iff.mp H
 obtain ⟨⟨t289, t290, t291⟩, A20, H⟩ := H
 replace H : (if t291 = true then (if 0 < (t289.length : Int) then (if (rd t289 0) > 255 then (greet_Asked.j0 k t289 t290 true) else (greet_Asked.j0 k t289 t290 (decide ((wrap64 (rd t289 0)) > (t290.length : Int))))) else (none)) else (greet_Asked.j0 k t289 t290 true)) = some (r1, r2, r3) := H
 have A2 := Aside0.mk A20
 clear A20
 have HC3 := Aside0.mk H
 clear H
 go_enter Tryd.func82, Tryd.ntmps82
 go_upto_region 2 with (first | ((with_reducible refine gate_dst (N := 13) rfl ?_); (try (refine gate_guard (by rfl) ?_; dsimp only)); refine Kd.R_lit (Kd.int .i64) _ 3 ?hg (N := 13) ?hd (xs := ([4] : List Int)) (inner := [.int .i64 4]) (ok := fun _ => True) (okp := fun _ => True) ?hr ?hp (fun _ hk => hk) trivial (Below.refl _ _) (Nat.le_refl _) (by simp) ?_; (case hd => rfl); (case hg => rfl); (case hr => first | (go_simp; done) | (go_simp; rfl) | (go_simp; simp only [IntKind.wrap_u32, Int.emod_add_emod, Int.add_emod_emod])); (case hp => exact (Reps.one (show Kd.M (Kd.int .i64) _ _ _ 4 [.int .i64 4] from rfl) (Reps.none _ _))); intro v287 w4 ho5 hb hg_ hnew_; clear hg_ hnew_; (first | rw [← Ny286.out] at ho5 | (simp only [Int.reduceToNat] at ho5; rw [← Ny286.out] at ho5)); have n0_ := Aside0.mk (Kd.R_lower ho5 (below_size (by repeat (first | (with_reducible first | exact HB.out | apply below_alloc | apply pw_below_drewN | apply below_drew1) | exact HB.out)))); have n1_ := Aside0.mk (below_step (by repeat (first | (with_reducible first | exact HB.out | apply below_alloc | apply pw_below_drewN | apply below_drew1) | exact HB.out)) hb); clear HB; have HO288 := n0_; have HB := n1_; clear n0_ n1_; clear hb ho5; obtain ⟨Ao6, co6, eo6⟩ := Kd.R_slice HO288.out; subst eo6) | ((with_reducible refine gate_callee (f := 65) rfl ?_); refine goesL_ (some 14) rfl rfl Tryd.func65 (by kernel_rfl) rfl #[.slice A0 l0.length c0, .slice Ao6 y286.length co6] rfl (by (try simp only [List.map_toArray, List.map_cons, List.map_nil]); first | done | rfl | (simp only [List.length_drop, List.length_take]; rfl) | (simp only [List.length_drop, List.length_take]; (repeat rw [Nat.min_eq_left (by simp only [eq_iff_iff, iff_true] at *; omega)]); rfl)) ?_; (with_reducible refine (wire_Take.calls _ _ l0 _ _ y286 t289 t290 t291 _ ?side1 ?side2 ?side3 ?side4 A2.out).mono ?_); (case side1 => repeat (first | exact (Kd.C_below HR0.out HB.out) | (with_reducible refine Kd.C_alloc ?_ _) | (with_reducible refine Kd.C_drewN ?_ _) | (with_reducible refine Kd.C_drew ?_))); (case side2 => exact HC0.out); (case side3 => repeat (first | exact (Kd.R_reads' HO288.out).2.2 | (with_reducible refine Kd.C_alloc ?_ _) | (with_reducible refine Kd.C_drewN ?_ _) | (with_reducible refine Kd.C_drew ?_))); (case side4 => exact (Kd.R_reads' HO288.out).2.1); rintro e w7 ⟨v292, v294, rfl, ho0, ho1, hb⟩; refine ⟨_, rfl, ?_⟩; have n0_ := Aside0.mk (Kd.R_below (by (with_reducible repeat (first | apply Kd.R_alloc | apply Kd.R_drewN | apply Kd.R_drew)); exact HO288.out) hb); have n1_ := Aside0.mk (Kd.R_lower ho0 (below_size (by repeat (first | (with_reducible first | exact HB.out | apply below_alloc | apply pw_below_drewN | apply below_drew1) | exact HB.out)))); have n2_ := Aside0.mk (Kd.R_lower ho1 (below_size (by repeat (first | (with_reducible first | exact HB.out | apply below_alloc | apply pw_below_drewN | apply below_drew1) | exact HB.out)))); have n3_ := Aside0.mk (below_step (by repeat (first | (with_reducible first | exact HB.out | apply below_alloc | apply pw_below_drewN | apply below_drew1) | exact HB.out)) hb); clear HO288; clear HB; have HO288 := n0_; have HO293 := n1_; have HO295 := n2_; have HB := n3_; clear n0_ n1_ n2_ n3_; (try clear hb); (try clear hb2); (try clear hk); (try clear hi); (try clear ho0); (try clear ho1)))
 (try simp only [Act.put, List.setIfInBounds_toArray, List.set_cons_zero, List.set_cons_succ])
 go_cut [34] (fun v34 wc => ∃ (kq : Nat) (x34_2 : Bool), v34 = .bool x34_2 ∧ Aside0 (greet_Asked.j0 kq t289 t290 x34_2 = some (r1, r2, r3)) ∧ Aside0 (kq ≤ k) ∧ Aside0 (Kd.R (Kd.int .u64) 42 wc w.heap.size (fun _ => True) v292 t289) ∧ Aside0 (Kd.R (Kd.int .u8) 5 wc w.heap.size (fun _ => True) v294 t290) ∧ Aside0 (Below w.heap.size w wc))
 case first =>
  have H := HC3.out
  clear HC3
  by_cases c8 : t291 = true
  ·subst c8
   have H1 : (if 0 < (t289.length : Int) then (if (rd t289 0) > 255 then (greet_Asked.j0 k t289 t290 true) else (greet_Asked.j0 k t289 t290 (decide ((wrap64 (rd t289 0)) > (t290.length : Int))))) else (none)) = some (r1, r2, r3) := by rw [if_pos rfl] at H; exact H
   clear H
   have H := H1
   clear H1
   by_cases c9 : 0 < (t289.length : Int)
   ·rw [if_pos c9] at H
    have c9b0 : decide (0 < (t289.length : Int)) = true := decide_eq_true c9
    have c9b1 : decide (0 < t289.length) = true := decide_eq_true (by omega)
    clear c9
    (first | rw [c9b0] | (simp only [i64_w, i32_w]; rw [c9b0]) | skip)
    by_cases c10 : (rd t289 0) > 255
    ·rw [if_pos c10] at H
     have c10b0 : decide (255 < (rd t289 0)) = true := decide_eq_true c10
     clear c10
     have H' := Aside0.mk H
     clear H
     obtain ⟨Ao11, co11, eo11⟩ := Kd.R_slice HO293.out
     subst eo11
     have p296 : 0 ≤ (0 : Int) := (by omega)
     have q296 : 0 < (t289.length : Int) := of_decide_eq_true (by first | (with_reducible assumption) | assumption)
     obtain ⟨ad296, e296, hx296_0⟩ := Kd.at_int (Kd.R_reads' HO293.out).2.2 0 p296 q296
     cases e296
     have qi296 : (0 < t289.length) = True := eq_true (by omega)
     (try rw [show ((0 : Int)).toNat = 0 from rfl] at hx296_0)
     (try rw [Addr.add_zero'] at hx296_0)
     replace p296 := eq_true p296
     replace q296 := eq_true q296
     go_wp2
     go_meet
     case rel => exact ⟨_, (true), (by first | rfl | (simp; done) | (simp [*]; done)), H', ⟨by first | omega | exact Nat.le_refl _⟩, ⟨by (with_reducible repeat (first | apply Kd.R_alloc | apply Kd.R_drewN | apply Kd.R_drew)); exact HO293.out⟩, ⟨by (with_reducible repeat (first | apply Kd.R_alloc | apply Kd.R_drewN | apply Kd.R_drew)); exact HO295.out⟩, ⟨by repeat (first | (with_reducible first | exact HB.out | apply below_alloc | apply pw_below_drewN | apply below_drew1) | exact HB.out)⟩⟩
    ·rw [if_neg c10] at H
     have c10b0 : decide (255 < (rd t289 0)) = false := decide_eq_false c10
     clear c10
     have H' := Aside0.mk H
     clear H
     obtain ⟨Ao12, co12, eo12⟩ := Kd.R_slice HO293.out
     subst eo12
     have p296 : 0 ≤ (0 : Int) := (by omega)
     have q296 : 0 < (t289.length : Int) := of_decide_eq_true (by first | (with_reducible assumption) | assumption)
     obtain ⟨ad296, e296, hx296_0⟩ := Kd.at_int (Kd.R_reads' HO293.out).2.2 0 p296 q296
     cases e296
     have qi296 : (0 < t289.length) = True := eq_true (by omega)
     (try rw [show ((0 : Int)).toNat = 0 from rfl] at hx296_0)
     (try rw [Addr.add_zero'] at hx296_0)
     replace p296 := eq_true p296
     replace q296 := eq_true q296
     have p297 : 0 ≤ (0 : Int) := (by omega)
     have q297 : 0 < (t289.length : Int) := of_decide_eq_true (by first | (with_reducible assumption) | assumption)
     obtain ⟨ad297, e297, hx297_0⟩ := Kd.at_int (Kd.R_reads' HO293.out).2.2 0 p297 q297
     obtain rfl : ad296 = ad297 := (by injection e297)
     have qi297 : (0 < t289.length) = True := eq_true (by omega)
     (try rw [show ((0 : Int)).toNat = 0 from rfl] at hx297_0)
     (try rw [Addr.add_zero'] at hx297_0)
     replace p297 := eq_true p297
     replace q297 := eq_true q297
     obtain ⟨Ao13, co13, eo13⟩ := Kd.R_slice HO295.out
     subst eo13
     go_wp2
     go_meet
     case rel => exact ⟨_, (decide ((wrap64 (rd t289 0)) > (t290.length : Int))), (by first | rfl | (simp; done) | (simp [*]; done)), H', ⟨by first | omega | exact Nat.le_refl _⟩, ⟨by (with_reducible repeat (first | apply Kd.R_alloc | apply Kd.R_drewN | apply Kd.R_drew)); exact HO293.out⟩, ⟨by (with_reducible repeat (first | apply Kd.R_alloc | apply Kd.R_drewN | apply Kd.R_drew)); exact HO295.out⟩, ⟨by repeat (first | (with_reducible first | exact HB.out | apply below_alloc | apply pw_below_drewN | apply below_drew1) | exact HB.out)⟩⟩
   ·rw [if_neg c9] at H
    exact absurd H (by simp)
  ·replace c8 := Bool.eq_false_iff.mpr c8
   subst c8
   have H1 : (greet_Asked.j0 k t289 t290 true) = some (r1, r2, r3) := by rw [if_neg (show ¬ (false = true) by decide)] at H; exact H
   clear H
   have H := H1
   clear H1
   have H' := Aside0.mk H
   clear H
   go_wp2
   go_meet
   case rel => exact ⟨_, (true), (by first | rfl | (simp; done) | (simp [*]; done)), H', ⟨by first | omega | exact Nat.le_refl _⟩, ⟨by (with_reducible repeat (first | apply Kd.R_alloc | apply Kd.R_drewN | apply Kd.R_drew)); exact HO293.out⟩, ⟨by (with_reducible repeat (first | apply Kd.R_alloc | apply Kd.R_drewN | apply Kd.R_drew)); exact HO295.out⟩, ⟨by repeat (first | (with_reducible first | exact HB.out | apply below_alloc | apply pw_below_drewN | apply below_drew1) | exact HB.out)⟩⟩
 case rest =>
  clear HC3
  try clear c1
  try clear p2
  try clear q2
  try clear hx2
  try clear qi2
  try clear c6
  try clear p6
  try clear c8
  try clear c9
  try clear c9b0
  try clear c9b1
  try clear c10
  try clear c10b0
  try clear hx296_0
  try clear hx297_0
  try clear p296
  try clear p297
  try clear q296
  try clear q297
  obtain ⟨kq, x34_2, rfl, HA, HJ2, HO_5, HO_6, HB⟩ := hcut
  cases kq with
  | zero => exact absurd HA.out (by simp [greet_Asked.j0])
  | succ kj2 =>
   have H := HA.out
   clear HA
   simp only [greet_Asked.j0] at H
   by_cases c14 : x34_2 = true
   ·subst c14
    have H1 : (some ((⟨#[]⟩ : ByteArray), ([] : List Int), 74)) = some (r1, r2, r3) := by rw [if_pos rfl] at H; exact H
    clear H
    have H := H1
    clear H1
    simp only [Option.some.injEq, Prod.mk.injEq] at H
    obtain ⟨rfl, rfl, rfl⟩ := H
    go_wp2
    go_ret3
    exact ⟨_, by first | rfl | (simp [errW_none, errW_some] <;> rfl) | (simp [*, errW_none, errW_some] <;> rfl), by first | exact Kd.R_nil _ _ _ _ _ | exact Kd.N_nil _ _ _ _ _ | exact Kd.V_nil _ _ _ _ _ | exact Kd.Q_nil _ _ _ _ _ | exact Kd.S_nil _ _ _ _ _, by repeat (first | (with_reducible first | exact HB.out | apply below_alloc | apply pw_below_drewN | apply below_drew1) | exact HB.out)⟩
   ·replace c14 := Bool.eq_false_iff.mpr c14
    subst c14
    have H1 : (if 0 < (t289.length : Int) then (if 0 ≤ (rd t289 0) then (if (rd t289 0) ≤ (t290.length : Int) then ((some (t290.take ((rd t289 0) : Int).toNat : List Int)).bind fun y299 => ((wire_Take.f (t290.drop ((rd t289 0) : Int).toNat) (([2] : List Int))).bind fun bt311 => (if bt311.2.2 = true then (if 0 < (bt311.1.length : Int) then (greet_Asked.j1 kj2 bt311.2.1 (strOfNums y299) ((bt311.2.1.length : Int) != (wrap64 (2 * (wrap64 (rd bt311.1 0)))))) else (none)) else (greet_Asked.j1 kj2 bt311.2.1 (strOfNums y299) true)))) else (none)) else (none)) else (none)) = some (r1, r2, r3) := by rw [if_neg (show ¬ (false = true) by decide)] at H; exact H
    clear H
    have H := H1
    clear H1
    by_cases c15 : 0 < (t289.length : Int)
    ·rw [if_pos c15] at H
     have c15b0 : decide (0 < (t289.length : Int)) = true := decide_eq_true c15
     have c15b1 : decide (0 < t289.length) = true := decide_eq_true (by omega)
     clear c15
     by_cases c16 : 0 ≤ (rd t289 0)
     ·rw [if_pos c16] at H
      have c16b0 := eq_true c16
      have c16b1 : decide (0 ≤ (rd t289 0)) = true := decide_eq_true c16
      clear c16
      by_cases c17 : (rd t289 0) ≤ (t290.length : Int)
      ·rw [if_pos c17] at H
       have c17b0 := eq_true c17
       have c17b1 : decide ((rd t289 0) ≤ (t290.length : Int)) = true := decide_eq_true c17
       clear c17
       obtain ⟨y299, hy299⟩ : ∃ y_ : List Int, y_ = (t290.take ((rd t289 0) : Int).toNat) := ⟨_, rfl⟩
       replace H : ((wire_Take.f (t290.drop ((rd t289 0) : Int).toNat) (([2] : List Int))).bind fun bt311 => (if bt311.2.2 = true then (if 0 < (bt311.1.length : Int) then (greet_Asked.j1 kj2 bt311.2.1 (strOfNums y299) ((bt311.2.1.length : Int) != (wrap64 (2 * (wrap64 (rd bt311.1 0)))))) else (none)) else (greet_Asked.j1 kj2 bt311.2.1 (strOfNums y299) true))) = some (r1, r2, r3) := by first | (rw [hy299]; with_reducible exact H) | (have H2_ := (Option.bind_some _ _).symm.trans H; rw [hy299]; with_reducible exact H2_) | (have H2_ := (Option.bind_some _ _).symm.trans H; with_reducible exact H2_) | with_reducible exact H | (rw [hy299]; exact H) | exact H
       have Ny299 := Aside0.mk hy299
       clear hy299
       have c18b0 := eq_true (of_decide_eq_true (by first | (with_reducible assumption) | assumption) : 0 ≤ (rd t289 0))
       have c19b0 := eq_true (of_decide_eq_true (by first | (with_reducible assumption) | assumption) : (rd t289 0) ≤ (t290.length : Int))
       obtain ⟨y304, hy304⟩ : ∃ y_ : List Int, y_ = (t290.drop ((rd t289 0) : Int).toNat) := ⟨_, rfl⟩
       replace H : ((wire_Take.f y304 (([2] : List Int))).bind fun bt311 => (if bt311.2.2 = true then (if 0 < (bt311.1.length : Int) then (greet_Asked.j1 kj2 bt311.2.1 (strOfNums y299) ((bt311.2.1.length : Int) != (wrap64 (2 * (wrap64 (rd bt311.1 0)))))) else (none)) else (greet_Asked.j1 kj2 bt311.2.1 (strOfNums y299) true))) = some (r1, r2, r3) := by first | (rw [hy304]; with_reducible exact H) | (have H2_ := (Option.bind_some _ _).symm.trans H; rw [hy304]; with_reducible exact H2_) | (have H2_ := (Option.bind_some _ _).symm.trans H; with_reducible exact H2_) | with_reducible exact H | (rw [hy304]; exact H) | exact H
       have Ny304 := Aside0.mk hy304
       clear hy304
       obtain ⟨y308, hy308⟩ : ∃ y_ : List Int, y_ = (([2] : List Int)) := ⟨_, rfl⟩
       replace H : ((wire_Take.f y304 y308).bind fun bt311 => (if bt311.2.2 = true then (if 0 < (bt311.1.length : Int) then (greet_Asked.j1 kj2 bt311.2.1 (strOfNums y299) ((bt311.2.1.length : Int) != (wrap64 (2 * (wrap64 (rd bt311.1 0)))))) else (none)) else (greet_Asked.j1 kj2 bt311.2.1 (strOfNums y299) true))) = some (r1, r2, r3) := by first | (rw [hy308]; with_reducible exact H) | (have H2_ := (Option.bind_some _ _).symm.trans H; rw [hy308]; with_reducible exact H2_) | (have H2_ := (Option.bind_some _ _).symm.trans H; with_reducible exact H2_) | with_reducible exact H | (rw [hy308]; exact H) | exact H
       have Ny308 := Aside0.mk hy308
       clear hy308
       replace H := Option.bind_eq_some_iff.mp H
       obtain ⟨⟨t311, t312, t313⟩, A200, H⟩ := H
       replace H : (if t313 = true then (if 0 < (t311.length : Int) then (greet_Asked.j1 kj2 t312 (strOfNums y299) ((t312.length : Int) != (wrap64 (2 * (wrap64 (rd t311 0)))))) else (none)) else (greet_Asked.j1 kj2 t312 (strOfNums y299) true)) = some (r1, r2, r3) := H
       have A20 := Aside0.mk A200
       clear A200
       have HC21 := Aside0.mk H
       clear H
       obtain ⟨Ao22, co22, eo22⟩ := Kd.R_slice HO_5.out
       subst eo22
       have p298 : 0 ≤ (0 : Int) := (by omega)
       have q298 : 0 < (t289.length : Int) := of_decide_eq_true (by first | (with_reducible assumption) | assumption)
       obtain ⟨ad298, e298, hx298_0⟩ := Kd.at_int (Kd.R_reads' HO_5.out).2.2 0 p298 q298
       cases e298
       have qi298 : (0 < t289.length) = True := eq_true (by omega)
       (try rw [show ((0 : Int)).toNat = 0 from rfl] at hx298_0)
       (try rw [Addr.add_zero'] at hx298_0)
       replace p298 := eq_true p298
       replace q298 := eq_true q298
       obtain ⟨Ao24, co24, eo24⟩ := Kd.R_slice HO_6.out
       subst eo24
       have q23 : ((rd t289 0) : Int) ≤ ((t290.length : Int) : Int) := of_decide_eq_true (by first | (with_reducible assumption) | assumption)
       obtain ⟨i023, hi023, _, hsz23, _⟩ := info_parts info5
       have hroom23 : t290.length ≤ co24 := (Kd.R_reads' HO_6.out).2.1
       have hC23 : Kd.C (Kd.int .u8) _ Ao24 t290.length t290 := (Kd.R_reads' HO_6.out).2.2
       have hcut23 := cut_to (P := Tryd.prog) 23 5 .u64 Tryd.underlying23 hi023 Ao24 t290.length co24 (rd t289 0) (of_decide_eq_true (by first | (with_reducible assumption) | assumption)) q23 hroom23
       have hr23 := Kd.C_take (m := ((rd t289 0) : Int).toNat) hC23 (by omega)
       have hy23 : y299.length = ((rd t289 0) : Int).toNat := (by rw [Ny299.out, List.length_take]; omega)
       rw [← Ny299.out] at hr23
       rw [← hy23] at hcut23
       have HR302 := Aside0.mk hr23
       have HC302 := Aside0.mk (show y299.length ≤ co24 from by omega)
       clear hr23 hC23 hroom23 hi023 hsz23
       have KY23 := Aside0.mk hy23
       clear hy23
       have KL23 := Aside0.mk (show ((rd t289 0) : Int).toNat ≤ t290.length from by omega)
       replace q23 := eq_true q23
       have hcv25 := Kd.C_string (P := Tryd.prog) (A := Ao24) (c := co24) Tryd.underlying23 Tryd.underlying5 Tryd.underlying9 (by repeat (first | (with_reducible exact HR302.out) | (with_reducible refine Kd.C_alloc ?_ _) | (with_reducible refine Kd.C_drewN ?_ _) | (with_reducible refine Kd.C_drew ?_) | exact HR302.out))
       have p303 : 0 ≤ (0 : Int) := (by omega)
       have q303 : 0 < (t289.length : Int) := of_decide_eq_true (by first | (with_reducible assumption) | assumption)
       obtain ⟨ad303, e303, hx303_0⟩ := Kd.at_int (Kd.R_reads' HO_5.out).2.2 0 p303 q303
       obtain rfl : ad298 = ad303 := (by injection e303)
       have qi303 : (0 < t289.length) = True := eq_true (by omega)
       (try rw [show ((0 : Int)).toNat = 0 from rfl] at hx303_0)
       (try rw [Addr.add_zero'] at hx303_0)
       replace p303 := eq_true p303
       replace q303 := eq_true q303
       have q26 : ((rd t289 0) : Int) ≤ ((t290.length : Int) : Int) := of_decide_eq_true (by first | (with_reducible assumption) | assumption)
       obtain ⟨i026, hi026, _, hsz26, _⟩ := info_parts info5
       have hroom26 : t290.length ≤ co24 := (Kd.R_reads' HO_6.out).2.1
       have hC26 : Kd.C (Kd.int .u8) _ Ao24 t290.length t290 := (Kd.R_reads' HO_6.out).2.2
       have q026 : (0 : Int) ≤ ((rd t289 0) : Int) := of_decide_eq_true (by first | (with_reducible assumption) | assumption)
       have hcut26 := cut_from (P := Tryd.prog) 23 5 .u64 Tryd.underlying23 hi026 1 hsz26 Ao24 t290.length co24 (rd t289 0) q026 q26
       have hr26 := Kd.C_drop (m := ((rd t289 0) : Int).toNat) (c := co24) hC26 (by omega) hroom26
       obtain ⟨A26, hA26⟩ : ∃ A1, A1 = (if co24 = ((rd t289 0) : Int).toNat then Ao24 else (Ao24 : Option Addr).map (·.add (((rd t289 0) : Int).toNat * 1))) := ⟨_, rfl⟩
       obtain ⟨c26, hc26⟩ : ∃ c1, c1 = co24 - ((rd t289 0) : Int).toNat := ⟨_, rfl⟩
       have hy26 : y304.length = t290.length - ((rd t289 0) : Int).toNat := (by rw [Ny304.out, List.length_drop] <;> omega)
       rw [show (t290).drop ((rd t289 0) : Int).toNat = y304 from Ny304.out.symm] at hr26
       replace hr26 : Kd.C (Kd.int .u8) _ A26 y304.length y304 := (by rw [hA26]; exact hr26)
       rw [← hy26, ← hA26, ← hc26] at hcut26
       have HR307 := Aside0.mk hr26
       have HC307 := Aside0.mk (show y304.length ≤ c26 from by rw [hy26, hc26]; exact Nat.sub_le_sub_right hroom26 _)
       clear hr26 hC26 hroom26 hi026 hsz26 hc26
       have KY26 := Aside0.mk hy26
       have KA26 := Aside0.mk hA26
       clear hy26 hA26
       have KL26 := Aside0.mk (show ((rd t289 0) : Int).toNat ≤ t290.length from by omega)
       replace q26 := eq_true q26
       go_upto_region 6 with (first | ((with_reducible refine gate_dst (N := 47) rfl ?_); (try (refine gate_guard (by rfl) ?_; dsimp only)); refine Kd.R_lit (Kd.int .i64) _ 3 ?hg (N := 47) ?hd (xs := ([2] : List Int)) (inner := [.int .i64 2]) (ok := fun _ => True) (okp := fun _ => True) ?hr ?hp (fun _ hk => hk) trivial (Below.refl _ _) (Nat.le_refl _) (by simp) ?_; (case hd => rfl); (case hg => rfl); (case hr => first | (go_simp; done) | (go_simp; rfl) | (go_simp; simp only [IntKind.wrap_u32, Int.emod_add_emod, Int.add_emod_emod])); (case hp => exact (Reps.one (show Kd.M (Kd.int .i64) _ _ _ 2 [.int .i64 2] from rfl) (Reps.none _ _))); intro v309 w27 ho28 hb hg_ hnew_; clear hg_ hnew_; (first | rw [← Ny308.out] at ho28 | (simp only [Int.reduceToNat] at ho28; rw [← Ny308.out] at ho28)); have n0_ := Aside0.mk (Kd.R_below (by (with_reducible repeat (first | apply Kd.R_alloc | apply Kd.R_drewN | apply Kd.R_drew)); exact HO_5.out) hb); have n1_ := Aside0.mk (Kd.R_below (by (with_reducible repeat (first | apply Kd.R_alloc | apply Kd.R_drewN | apply Kd.R_drew)); exact HO_6.out) hb); have n2_ := Aside0.mk (Kd.R_lower ho28 (below_size (by repeat (first | (with_reducible first | exact HB.out | apply below_alloc | apply pw_below_drewN | apply below_drew1) | exact HB.out)))); have n3_ := Aside0.mk (Kd.C_below (by repeat (first | (with_reducible exact HR302.out) | (with_reducible refine Kd.C_alloc ?_ _) | (with_reducible refine Kd.C_drewN ?_ _) | (with_reducible refine Kd.C_drew ?_) | exact HR302.out)) hb); have n4_ := Aside0.mk (Kd.C_below (by repeat (first | (with_reducible exact HR307.out) | (with_reducible refine Kd.C_alloc ?_ _) | (with_reducible refine Kd.C_drewN ?_ _) | (with_reducible refine Kd.C_drew ?_) | exact HR307.out)) hb); have n5_ := Aside0.mk (below_step (by repeat (first | (with_reducible first | exact HB.out | apply below_alloc | apply pw_below_drewN | apply below_drew1) | exact HB.out)) hb); clear HO_5; clear HO_6; clear HR302; clear HR307; clear HB; have HO_5 := n0_; have HO_6 := n1_; have HO310 := n2_; have HR302 := n3_; have HR307 := n4_; have HB := n5_; clear n0_ n1_ n2_ n3_ n4_ n5_; clear hb ho28; obtain ⟨Ao29, co29, eo29⟩ := Kd.R_slice HO310.out; subst eo29) | ((with_reducible refine gate_callee (f := 65) rfl ?_); refine goesL_ (some 48) rfl rfl Tryd.func65 (by kernel_rfl) rfl #[.slice A26 y304.length c26, .slice Ao29 y308.length co29] rfl (by (try simp only [List.map_toArray, List.map_cons, List.map_nil]); first | done | rfl | (simp only [List.length_drop, List.length_take]; rfl) | (simp only [List.length_drop, List.length_take]; (repeat rw [Nat.min_eq_left (by simp only [eq_iff_iff, iff_true] at *; omega)]); rfl)) ?_; (with_reducible refine (wire_Take.calls _ _ y304 _ _ y308 t311 t312 t313 _ ?side1 ?side2 ?side3 ?side4 A20.out).mono ?_); (case side1 => repeat (first | exact (by repeat (first | (with_reducible exact HR307.out) | (with_reducible refine Kd.C_alloc ?_ _) | (with_reducible refine Kd.C_drewN ?_ _) | (with_reducible refine Kd.C_drew ?_) | exact HR307.out)) | (with_reducible refine Kd.C_alloc ?_ _) | (with_reducible refine Kd.C_drewN ?_ _) | (with_reducible refine Kd.C_drew ?_))); (case side2 => exact HC307.out); (case side3 => repeat (first | exact (Kd.R_reads' HO310.out).2.2 | (with_reducible refine Kd.C_alloc ?_ _) | (with_reducible refine Kd.C_drewN ?_ _) | (with_reducible refine Kd.C_drew ?_))); (case side4 => exact (Kd.R_reads' HO310.out).2.1); rintro e w30 ⟨v314, v316, rfl, ho0, ho1, hb⟩; refine ⟨_, rfl, ?_⟩; have n0_ := Aside0.mk (Kd.R_elder' (by (with_reducible repeat (first | apply Kd.R_alloc | apply Kd.R_drewN | apply Kd.R_drew)); exact HO_5.out) (Kd.R_base ho0) hb); have n1_ := Aside0.mk (Kd.R_elder' (by (with_reducible repeat (first | apply Kd.R_alloc | apply Kd.R_drewN | apply Kd.R_drew)); exact HO_6.out) (Kd.R_base ho1) hb); have n2_ := Aside0.mk (Kd.R_below (by (with_reducible repeat (first | apply Kd.R_alloc | apply Kd.R_drewN | apply Kd.R_drew)); exact HO310.out) hb); have n3_ := Aside0.mk (Kd.R_lower (Kd.R_new' ho0 (Kd.R_lt (by (with_reducible repeat (first | apply Kd.R_alloc | apply Kd.R_drewN | apply Kd.R_drew)); exact HO_5.out))) (below_size (by repeat (first | (with_reducible first | exact HB.out | apply below_alloc | apply pw_below_drewN | apply below_drew1) | exact HB.out)))); have n4_ := Aside0.mk (Kd.R_lower (Kd.R_new' ho1 (Kd.R_lt (by (with_reducible repeat (first | apply Kd.R_alloc | apply Kd.R_drewN | apply Kd.R_drew)); exact HO_6.out))) (below_size (by repeat (first | (with_reducible first | exact HB.out | apply below_alloc | apply pw_below_drewN | apply below_drew1) | exact HB.out)))); have n5_ := Aside0.mk (Kd.C_below (by repeat (first | (with_reducible exact HR302.out) | (with_reducible refine Kd.C_alloc ?_ _) | (with_reducible refine Kd.C_drewN ?_ _) | (with_reducible refine Kd.C_drew ?_) | exact HR302.out)) hb); have n6_ := Aside0.mk (Kd.C_below (by repeat (first | (with_reducible exact HR307.out) | (with_reducible refine Kd.C_alloc ?_ _) | (with_reducible refine Kd.C_drewN ?_ _) | (with_reducible refine Kd.C_drew ?_) | exact HR307.out)) hb); have n7_ := Aside0.mk (below_step (by repeat (first | (with_reducible first | exact HB.out | apply below_alloc | apply pw_below_drewN | apply below_drew1) | exact HB.out)) hb); clear HO_5; clear HO_6; clear HO310; clear HR302; clear HR307; clear HB; have HO_5 := n0_; have HO_6 := n1_; have HO310 := n2_; have HO315 := n3_; have HO317 := n4_; have HR302 := n5_; have HR307 := n6_; have HB := n7_; clear n0_ n1_ n2_ n3_ n4_ n5_ n6_ n7_; (try clear hb); (try clear hb2); (try clear hk); (try clear hi); (try clear ho0); (try clear ho1)))
       (try simp only [Act.put, List.setIfInBounds_toArray, List.set_cons_zero, List.set_cons_succ])
       go_cut [63] (fun v63 wc => ∃ (kq : Nat) (x63_20 : Bool), v63 = .bool x63_20 ∧ Aside0 (greet_Asked.j1 kq t312 (strOfNums y299) x63_20 = some (r1, r2, r3)) ∧ Aside0 (kq ≤ kj2) ∧ Aside0 (Kd.R (Kd.int .u8) 5 wc w.heap.size (fun _ => True) v316 t312) ∧ Aside0 (Kd.C (Kd.int .u8) wc Ao24 y299.length y299) ∧ Aside0 (Kd.C (Kd.int .u8) wc A26 y304.length y304) ∧ Aside0 (Below w.heap.size w wc))
       case first =>
        have H := HC21.out
        clear HC21
        by_cases c31 : t313 = true
        ·subst c31
         have H1 : (if 0 < (t311.length : Int) then (greet_Asked.j1 kj2 t312 (strOfNums y299) ((t312.length : Int) != (wrap64 (2 * (wrap64 (rd t311 0)))))) else (none)) = some (r1, r2, r3) := by rw [if_pos rfl] at H; exact H
         clear H
         have H := H1
         clear H1
         by_cases c32 : 0 < (t311.length : Int)
         ·rw [if_pos c32] at H
          have c32b0 : decide (0 < (t311.length : Int)) = true := decide_eq_true c32
          have c32b1 : decide (0 < t311.length) = true := decide_eq_true (by omega)
          clear c32
          (first | rw [c32b0] | (simp only [i64_w, i32_w]; rw [c32b0]) | skip)
          have H' := Aside0.mk H
          clear H
          obtain ⟨Ao33, co33, eo33⟩ := Kd.R_slice HO317.out
          subst eo33
          obtain ⟨Ao34, co34, eo34⟩ := Kd.R_slice HO315.out
          subst eo34
          have p318 : 0 ≤ (0 : Int) := (by omega)
          have q318 : 0 < (t311.length : Int) := of_decide_eq_true (by first | (with_reducible assumption) | assumption)
          obtain ⟨ad318, e318, hx318_0⟩ := Kd.at_int (Kd.R_reads' HO315.out).2.2 0 p318 q318
          cases e318
          have qi318 : (0 < t311.length) = True := eq_true (by omega)
          (try rw [show ((0 : Int)).toNat = 0 from rfl] at hx318_0)
          (try rw [Addr.add_zero'] at hx318_0)
          replace p318 := eq_true p318
          replace q318 := eq_true q318
          go_wp2
          go_meet
          case rel => exact ⟨_, (((t312.length : Int) != (wrap64 (2 * (wrap64 (rd t311 0)))))), (by first | rfl | (simp; done) | (simp [*]; done)), H', ⟨by have := HJ2.out; first | omega | exact Nat.le_refl _⟩, ⟨by (with_reducible repeat (first | apply Kd.R_alloc | apply Kd.R_drewN | apply Kd.R_drew)); exact Kd.R_mono HO317.out (fun _ hk => trivial)⟩, ⟨by repeat (first | (with_reducible exact HR302.out) | (with_reducible refine Kd.C_alloc ?_ _) | (with_reducible refine Kd.C_drewN ?_ _) | (with_reducible refine Kd.C_drew ?_) | exact HR302.out)⟩, ⟨by repeat (first | (with_reducible exact HR307.out) | (with_reducible refine Kd.C_alloc ?_ _) | (with_reducible refine Kd.C_drewN ?_ _) | (with_reducible refine Kd.C_drew ?_) | exact HR307.out)⟩, ⟨by repeat (first | (with_reducible first | exact HB.out | apply below_alloc | apply pw_below_drewN | apply below_drew1) | exact HB.out)⟩⟩
         ·rw [if_neg c32] at H
          exact absurd H (by simp)
        ·replace c31 := Bool.eq_false_iff.mpr c31
         subst c31
         have H1 : (greet_Asked.j1 kj2 t312 (strOfNums y299) true) = some (r1, r2, r3) := by rw [if_neg (show ¬ (false = true) by decide)] at H; exact H
         clear H
         have H := H1
         clear H1
         have H' := Aside0.mk H
         clear H
         go_wp2
         go_meet
         case rel => exact ⟨_, (true), (by first | rfl | (simp; done) | (simp [*]; done)), H', ⟨by have := HJ2.out; first | omega | exact Nat.le_refl _⟩, ⟨by (with_reducible repeat (first | apply Kd.R_alloc | apply Kd.R_drewN | apply Kd.R_drew)); exact Kd.R_mono HO317.out (fun _ hk => trivial)⟩, ⟨by repeat (first | (with_reducible exact HR302.out) | (with_reducible refine Kd.C_alloc ?_ _) | (with_reducible refine Kd.C_drewN ?_ _) | (with_reducible refine Kd.C_drew ?_) | exact HR302.out)⟩, ⟨by repeat (first | (with_reducible exact HR307.out) | (with_reducible refine Kd.C_alloc ?_ _) | (with_reducible refine Kd.C_drewN ?_ _) | (with_reducible refine Kd.C_drew ?_) | exact HR307.out)⟩, ⟨by repeat (first | (with_reducible first | exact HB.out | apply below_alloc | apply pw_below_drewN | apply below_drew1) | exact HB.out)⟩⟩
       case rest =>
        clear HC21
        try clear c1
        try clear c2
        try clear p2
        try clear q2
        try clear hx2
        try clear hcv2
        try clear qi2
        try clear c3
        try clear p3
        try clear q3
        try clear hx3
        try clear qi3
        try clear c6
        try clear p6
        try clear c8
        try clear c9
        try clear c9b0
        try clear c9b1
        try clear c10
        try clear c10b0
        try clear c14
        try clear c15
        try clear c15b0
        try clear c15b1
        try clear c16
        try clear c16b0
        try clear c16b1
        try clear c17
        try clear c17b0
        try clear c17b1
        try clear c18
        try clear c18b0
        try clear c19
        try clear c19b0
        try clear q23
        try clear hcv25
        try clear c26
        try clear q26
        try clear p29
        try clear q29
        try clear hx29
        try clear qi29
        try clear p30
        try clear q30
        try clear hx30
        try clear qi30
        try clear c31
        try clear p31
        try clear q31
        try clear hx31
        try clear qi31
        try clear c32
        try clear c32b0
        try clear c32b1
        try clear hx296_0
        try clear hx297_0
        try clear hx298_0
        try clear hx303_0
        try clear hx318_0
        try clear p2
        try clear p296
        try clear p297
        try clear p298
        try clear p303
        try clear p318
        try clear p6
        try clear q026
        try clear q2
        try clear q23
        try clear q26
        try clear q296
        try clear q297
        try clear q298
        try clear q303
        try clear q318
        obtain ⟨kq, x63_20, rfl, HA, HJ20, HO_6, HR302, HR307, HB⟩ := hcut
        cases kq with
        | zero => exact absurd HA.out (by simp [greet_Asked.j1])
        | succ kj20 =>
         have H := HA.out
         clear HA
         simp only [greet_Asked.j1] at H
         by_cases c35 : x63_20 = true
         ·subst c35
          have H1 : (some ((⟨#[]⟩ : ByteArray), ([] : List Int), 74)) = some (r1, r2, r3) := by rw [if_pos rfl] at H; exact H
          clear H
          have H := H1
          clear H1
          simp only [Option.some.injEq, Prod.mk.injEq] at H
          obtain ⟨rfl, rfl, rfl⟩ := H
          go_wp2
          go_ret3
          exact ⟨_, by first | rfl | (simp [errW_none, errW_some] <;> rfl) | (simp [*, errW_none, errW_some] <;> rfl), by first | exact Kd.R_nil _ _ _ _ _ | exact Kd.N_nil _ _ _ _ _ | exact Kd.V_nil _ _ _ _ _ | exact Kd.Q_nil _ _ _ _ _ | exact Kd.S_nil _ _ _ _ _, by repeat (first | (with_reducible first | exact HB.out | apply below_alloc | apply pw_below_drewN | apply below_drew1) | exact HB.out)⟩
         ·replace c35 := Bool.eq_false_iff.mpr c35
          subst c35
          have H1 : (greet_Asked.l0 kj20 t312 (strOfNums y299) ([] : List Int) 1) = some (r1, r2, r3) := by rw [if_neg (show ¬ (false = true) by decide)] at H; exact H
          clear H
          have H := H1
          clear H1
          have H' := Aside0.mk H
          clear H
          go_wp2
          go_loopg [9, 10] kj20 (fun kq v9 v10 w' => ∃ (x9_3 : List Int) (x10_3 : Int), v10 = .int .i64 x10_3 ∧ Aside0 (greet_Asked.l0 kq t312 (strOfNums y299) x9_3 x10_3 = some (r1, r2, r3)) ∧ Aside0 (kq ≤ kj20) ∧ Aside0 (Kd.R (Kd.int .u8) 5 w' w.heap.size (fun _ => True) v316 t312) ∧ Aside0 (Kd.R (Kd.int .u16) 56 w' w.heap.size (fun _ => True) v9 x9_3) ∧ Aside0 (Below w.heap.size w w'))
          case atStart => exact ⟨(([] : List Int)), (1), (by first | rfl | (simp; done) | (simp [*]; done)), H', ⟨Nat.le_refl _⟩, ⟨by (with_reducible repeat (first | apply Kd.R_alloc | apply Kd.R_drewN | apply Kd.R_drew)); exact HO_6.out⟩, ⟨by first | exact Kd.R_nil _ _ _ _ _ | exact Kd.N_nil _ _ _ _ _ | exact Kd.V_nil _ _ _ _ _ | exact Kd.Q_nil _ _ _ _ _ | exact Kd.S_nil _ _ _ _ _⟩, ⟨by repeat (first | (with_reducible first | exact HB.out | apply below_alloc | apply pw_below_drewN | apply below_drew1) | exact HB.out)⟩⟩
          case round =>
           clear H'
           try clear c1
           try clear c2
           try clear p2
           try clear q2
           try clear hx2
           try clear hcv2
           try clear qi2
           try clear c3
           try clear p3
           try clear q3
           try clear hx3
           try clear qi3
           try clear c6
           try clear p6
           try clear c8
           try clear c9
           try clear c9b0
           try clear c9b1
           try clear c10
           try clear c10b0
           try clear c14
           try clear c15
           try clear c15b0
           try clear c15b1
           try clear c16
           try clear c16b0
           try clear c16b1
           try clear c17
           try clear c17b0
           try clear c17b1
           try clear c18
           try clear c18b0
           try clear c19
           try clear c19b0
           try clear q23
           try clear hcv25
           try clear c26
           try clear q26
           try clear p29
           try clear q29
           try clear hx29
           try clear qi29
           try clear p30
           try clear q30
           try clear hx30
           try clear qi30
           try clear c31
           try clear p31
           try clear q31
           try clear hx31
           try clear qi31
           try clear c32
           try clear c32b0
           try clear c32b1
           try clear c35
           try clear hx296_0
           try clear hx297_0
           try clear hx298_0
           try clear hx303_0
           try clear hx318_0
           try clear p2
           try clear p29
           try clear p296
           try clear p297
           try clear p298
           try clear p3
           try clear p30
           try clear p303
           try clear p31
           try clear p318
           try clear p6
           try clear q026
           try clear q2
           try clear q23
           try clear q26
           try clear q29
           try clear q296
           try clear q297
           try clear q298
           try clear q3
           try clear q30
           try clear q303
           try clear q31
           try clear q318
           obtain ⟨x9_3, x10_3, rfl, HA, HK3, HO_6, HO_9, HB⟩ := hrel
           cases gk with
           | zero => exact absurd HA.out (by simp [greet_Asked.l0])
           | succ k3 =>
            have H := HA.out
            clear HA
            simp only [greet_Asked.l0] at H
            by_cases c36 : x10_3 < (t312.length : Int)
            ·rw [if_pos c36] at H
             have c36b0 : decide (x10_3 < (t312.length : Int)) = true := decide_eq_true c36
             clear c36
             obtain ⟨ji37, hji37⟩ : ∃ j_ : Int, (wrap64 (x10_3 - 1)) = j_ := ⟨_, rfl⟩
             replace H : (if 0 ≤ (ji37) then (if (ji37) < (t312.length : Int) then (if 0 ≤ x10_3 then (if x9_3.length < 70368744177664 then (greet_Asked.l0 k3 t312 (strOfNums y299) (x9_3 ++ [Go.bits .or .u16 (IntKind.u16.wrap ((IntKind.u16.wrap (rd t312 (ji37))) * 256)) (IntKind.u16.wrap (rd t312 x10_3))]) (wrap64 (x10_3 + 2))) else (none)) else (none)) else (none)) else (none)) = some (r1, r2, r3) := by first | (rw [hji37] at H; exact H) | (simp only [hji37] at H ⊢; exact H)
             have hji37w : (IntKind.i64.wrap (x10_3 - 1)) = ji37 := (i64_w _).trans hji37
             by_cases c38 : 0 ≤ (ji37)
             ·rw [if_pos c38] at H
              have c38b0 : decide (0 ≤ (ji37)) = true := decide_eq_true c38
              clear c38
              by_cases c39 : (ji37) < (t312.length : Int)
              ·rw [if_pos c39] at H
               have c39b0 : decide ((ji37) < (t312.length : Int)) = true := decide_eq_true c39
               clear c39
               by_cases c40 : 0 ≤ x10_3
               ·rw [if_pos c40] at H
                have c40b0 : decide (0 ≤ x10_3) = true := decide_eq_true c40
                clear c40
                by_cases c41 : x9_3.length < 70368744177664
                ·rw [if_pos c41] at H
                 have LMc41 := Aside0.mk c41
                 clear c41
                 obtain ⟨y321, hy321⟩ : ∃ y_ : List Int, y_ = (x9_3 ++ [Go.bits .or .u16 (IntKind.u16.wrap ((IntKind.u16.wrap (rd t312 (ji37))) * 256)) (IntKind.u16.wrap (rd t312 x10_3))]) := ⟨_, rfl⟩
                 replace H : (greet_Asked.l0 k3 t312 (strOfNums y299) y321 (wrap64 (x10_3 + 2))) = some (r1, r2, r3) := by first | (rw [hy321]; with_reducible exact H) | (have H2_ := (Option.bind_some _ _).symm.trans H; rw [hy321]; with_reducible exact H2_) | (have H2_ := (Option.bind_some _ _).symm.trans H; with_reducible exact H2_) | with_reducible exact H | (rw [hy321]; exact H) | exact H
                 have Ny321 := Aside0.mk hy321
                 clear hy321
                 have H' := Aside0.mk H
                 clear H
                 obtain ⟨Ao42, co42, eo42⟩ := Kd.R_slice HO_6.out
                 subst eo42
                 try go_wp2
                 have n0_ := Aside0.mk (Kd.R_drew HO_6.out)
                 have n1_ := Aside0.mk (Kd.R_drew HO_9.out)
                 have n2_ := Aside0.mk (below_drew1 HB.out)
                 clear HO_6
                 clear HO_9
                 clear HB
                 have HO_6 := n0_
                 have HO_9 := n1_
                 have HB := n2_
                 clear n0_ n1_ n2_
                 have p319 : 0 ≤ ((ji37) : Int) := of_decide_eq_true (by first | (with_reducible assumption) | assumption)
                 have q319 : (ji37) < (t312.length : Int) := of_decide_eq_true (by first | (with_reducible assumption) | assumption)
                 obtain ⟨ad319, e319, hx319_0⟩ := Kd.at_int (Kd.R_reads' HO_6.out).2.2 (ji37) p319 q319
                 cases e319
                 replace p319 := eq_true p319
                 replace q319 := eq_true q319
                 have p320 : 0 ≤ (x10_3 : Int) := of_decide_eq_true (by first | (with_reducible assumption) | assumption)
                 have q320 : x10_3 < (t312.length : Int) := of_decide_eq_true (by first | (with_reducible assumption) | assumption)
                 obtain ⟨ad320, e320, hx320_0⟩ := Kd.at_int (Kd.R_reads' HO_6.out).2.2 x10_3 p320 q320
                 obtain rfl : ad319 = ad320 := (by injection e320)
                 replace p320 := eq_true p320
                 replace q320 := eq_true q320
                 refine start_ (n := 17) (S := fun w' => w'.cell? (ad319.add ((ji37)).toNat) = some (.int .u8 (rd t312 (ji37))) ∧ w'.cell? (ad319.add (x10_3).toNat) = some (.int .u8 (rd t312 x10_3))) (ds := [14, 15]) #[false, false, false, false, false, false, false, false, false, false, false, false, false, false, false, false, false] (by kernel_rfl) rfl rfl ⟨hx319_0, hx320_0⟩ (fun hHeld => ?_); refine with_tabW greet_Asked.tab12 greet_Asked.bits12 (fun HT_ HW_ => ?_)
                 generalize wr.drew = w43 at HO_6 HO_9 HB hx319_0 hx320_0 hHeld ⊢
                 refine pure_ (i := 0) (N := some 70) (v := ?_) (a' := ?_) #[true, false, false, false, false, false, false, false, false, false, false, false, false, false, false, false, false] rfl rfl (any_of HT_.out (by kernel_rfl)) (fun _ _ _ h => h) (Or.inl ⟨by rfl, ?_⟩) ?_ ?_
                 rotate_left
                 ·intro w'
                  go_simp
                  with_reducible rfl
                 rotate_left
                 ·simp only [Act.put, List.setIfInBounds_toArray, List.set_cons_zero, List.set_cons_succ, i64_w, i32_w]
                  rfl
                 refine pure_ (i := 1) (N := some 71) (v := ?_) (a' := ?_) #[true, true, false, false, false, false, false, false, false, false, false, false, false, false, false, false, false] rfl rfl (any_of HT_.out (by kernel_rfl)) (fun _ _ _ h => h) (Or.inl ⟨by rfl, ?_⟩) ?_ ?_
                 rotate_left
                 ·intro w'
                  go_simp
                  with_reducible rfl
                 rotate_left
                 ·simp only [Act.put, List.setIfInBounds_toArray, List.set_cons_zero, List.set_cons_succ, i64_w, i32_w]
                  rfl
                 refine pure_ (i := 2) (N := some 72) (v := ?_) (a' := ?_) #[true, true, true, false, false, false, false, false, false, false, false, false, false, false, false, false, false] rfl rfl (any_of HT_.out (by kernel_rfl)) (fun _ _ _ h => h) (Or.inl ⟨by rfl, ?_⟩) ?_ ?_
                 rotate_left
                 ·intro w'
                  go_simp
                  with_reducible rfl
                 rotate_left
                 ·simp only [Act.put, List.setIfInBounds_toArray, List.set_cons_zero, List.set_cons_succ, i64_w, i32_w]
                  rfl
                 refine pure_ (i := 3) (N := some 73) (v := ?_) (a' := ?_) #[true, true, true, true, false, false, false, false, false, false, false, false, false, false, false, false, false] rfl rfl (any_of HT_.out (by kernel_rfl)) (fun _ _ _ h => h) (Or.inl ⟨by rfl, ?_⟩) ?_ ?_
                 rotate_left
                 ·intro w'
                  go_simp
                  with_reducible rfl
                 rotate_left
                 ·simp only [Act.put, List.setIfInBounds_toArray, List.set_cons_zero, List.set_cons_succ, i64_w, i32_w]
                  rfl
                 refine pure_ (i := 4) (N := some 74) (v := ?_) (a' := ?_) #[true, true, true, true, true, false, false, false, false, false, false, false, false, false, false, false, false] rfl rfl (any_of HT_.out (by kernel_rfl)) (fun _ _ _ h => h) (Or.inl ⟨by rfl, ?_⟩) ?_ ?_
                 rotate_left
                 ·intro w'
                  go_simp
                  with_reducible rfl
                 rotate_left
                 ·simp only [Act.put, List.setIfInBounds_toArray, List.set_cons_zero, List.set_cons_succ, i64_w, i32_w]
                  rfl
                 refine pure_ (i := 8) (N := some 78) (v := ?_) (a' := ?_) #[true, true, true, true, true, false, false, false, true, false, false, false, false, false, false, false, false] rfl rfl (any_of HT_.out (by kernel_rfl)) (fun _ _ _ h => h) (Or.inl ⟨by rfl, ?_⟩) ?_ ?_
                 rotate_left
                 ·intro w'
                  go_simp
                  with_reducible rfl
                 rotate_left
                 ·simp only [Act.put, List.setIfInBounds_toArray, List.set_cons_zero, List.set_cons_succ, i64_w, i32_w]
                  rfl
                 refine pure_ (i := 9) (N := some 79) (v := ?_) (a' := ?_) #[true, true, true, true, true, false, false, false, true, true, false, false, false, false, false, false, false] rfl rfl (any_of HT_.out (by kernel_rfl)) (fun _ _ _ h => h) (Or.inl ⟨by rfl, ?_⟩) ?_ ?_
                 rotate_left
                 ·intro w'
                  go_simp
                  with_reducible rfl
                 rotate_left
                 ·simp only [Act.put, List.setIfInBounds_toArray, List.set_cons_zero, List.set_cons_succ, i64_w, i32_w]
                  rfl
                 refine pure_ (i := 10) (N := some 80) (v := ?_) (a' := ?_) #[true, true, true, true, true, false, false, false, true, true, true, false, false, false, false, false, false] rfl rfl (any_of HT_.out (by kernel_rfl)) (fun _ _ _ h => h) (Or.inl ⟨by rfl, ?_⟩) ?_ ?_
                 rotate_left
                 ·intro w'
                  go_simp
                  with_reducible rfl
                 rotate_left
                 ·simp only [Act.put, List.setIfInBounds_toArray, List.set_cons_zero, List.set_cons_succ, i64_w, i32_w]
                  rfl
                 refine take_ (i := 5) (N := some 75) (v := ?_) (a' := ?_) #[true, true, true, true, true, true, false, false, true, true, true, false, false, false, false, false, false] rfl rfl (take_ofW HT_.out HW_.out (by kernel_rfl)) (fun _ _ _ h => h) (Or.inl ⟨by rfl, ?_⟩) hHeld ?_ ?_
                 rotate_left
                 ·rintro w' ⟨s0, s1⟩
                  go_simp
                  with_reducible rfl
                 rotate_left
                 ·simp only [Act.put, List.setIfInBounds_toArray, List.set_cons_zero, List.set_cons_succ, i64_w, i32_w]
                  rfl
                 refine pure_ (i := 6) (N := some 76) (v := ?_) (a' := ?_) #[true, true, true, true, true, true, true, false, true, true, true, false, false, false, false, false, false] rfl rfl (any_of HT_.out (by kernel_rfl)) (fun _ _ _ h => h) (Or.inl ⟨by rfl, ?_⟩) ?_ ?_
                 rotate_left
                 ·intro w'
                  go_simp
                  with_reducible rfl
                 rotate_left
                 ·simp only [Act.put, List.setIfInBounds_toArray, List.set_cons_zero, List.set_cons_succ, i64_w, i32_w]
                  rfl
                 refine pure_ (i := 7) (N := some 77) (v := ?_) (a' := ?_) #[true, true, true, true, true, true, true, true, true, true, true, false, false, false, false, false, false] rfl rfl (any_of HT_.out (by kernel_rfl)) (fun _ _ _ h => h) (Or.inl ⟨by rfl, ?_⟩) ?_ ?_
                 rotate_left
                 ·intro w'
                  go_simp
                  with_reducible rfl
                 rotate_left
                 ·simp only [Act.put, List.setIfInBounds_toArray, List.set_cons_zero, List.set_cons_succ, i64_w, i32_w]
                  rfl
                 refine take_ (i := 11) (N := some 81) (v := ?_) (a' := ?_) #[true, true, true, true, true, true, true, true, true, true, true, true, false, false, false, false, false] rfl rfl (take_ofW HT_.out HW_.out (by kernel_rfl)) (fun _ _ _ h => h) (Or.inl ⟨by rfl, ?_⟩) hHeld ?_ ?_
                 rotate_left
                 ·rintro w' ⟨s0, s1⟩
                  go_simp
                  with_reducible rfl
                 rotate_left
                 ·simp only [Act.put, List.setIfInBounds_toArray, List.set_cons_zero, List.set_cons_succ, i64_w, i32_w]
                  rfl
                 refine pure_ (i := 12) (N := some 82) (v := ?_) (a' := ?_) #[true, true, true, true, true, true, true, true, true, true, true, true, true, false, false, false, false] rfl rfl (any_of HT_.out (by kernel_rfl)) (fun _ _ _ h => h) (Or.inl ⟨by rfl, ?_⟩) ?_ ?_
                 rotate_left
                 ·intro w'
                  go_simp
                  with_reducible rfl
                 rotate_left
                 ·simp only [Act.put, List.setIfInBounds_toArray, List.set_cons_zero, List.set_cons_succ, i64_w, i32_w]
                  rfl
                 refine pure_ (i := 13) (N := some 83) (v := ?_) (a' := ?_) #[true, true, true, true, true, true, true, true, true, true, true, true, true, true, false, false, false] rfl rfl (any_of HT_.out (by kernel_rfl)) (fun _ _ _ h => h) (Or.inl ⟨by rfl, ?_⟩) ?_ ?_
                 rotate_left
                 ·intro w'
                  go_simp
                  with_reducible rfl
                 rotate_left
                 ·simp only [Act.put, List.setIfInBounds_toArray, List.set_cons_zero, List.set_cons_succ, i64_w, i32_w]
                  rfl
                 refine last_ (i := 14) (N := some 84) #[true, true, true, true, true, true, true, true, true, true, true, true, true, true, true, false, false] rfl rfl (one_of HT_.out (by kernel_rfl)) (by decide) (fun K hK => ?_)
                 refine value_ (w1 := ?_) (v := ?_) (by rfl) rfl ?_ ?_
                 rotate_left 2
                 ·go_simp
                  constructor
                  ·rfl
                  ·rfl
                 refine hK.out _ _ ?_
                 clear hK K
                 refine norm_ (a' := ?_) ?_ ?_
                 rotate_left
                 ·show Act.put _ (some 84) _ = _
                  simp only [Act.put, List.setIfInBounds_toArray, List.set_cons_zero, List.set_cons_succ, i64_w, i32_w]
                  rfl
                 refine last_ (i := 15) (N := some 85) #[true, true, true, true, true, true, true, true, true, true, true, true, true, true, true, true, false] rfl rfl (one_of HT_.out (by kernel_rfl)) (by decide) (fun K hK => ?_)
                 refine Kd.R_append_step (Kd.int .u16) (w0 := w) w.heap.size (by rfl) (.tmp 70) (.tmp 84) 149 56 (.int .u16 0) 2 rfl Tryd.underlying149 info56 rfl (by decide) (by omega) u9 x9_3 (Go.bits .or .u16 (IntKind.u16.wrap ((IntKind.u16.wrap (rd t312 (ji37))) * 256)) (IntKind.u16.wrap (rd t312 x10_3))) [.int .u16 (Go.bits .or .u16 (IntKind.u16.wrap ((IntKind.u16.wrap (rd t312 (ji37))) * 256)) (IntKind.u16.wrap (rd t312 x10_3)))] (fun _ => True) (fun _ => False) rfl rfl ?aP (fun _ hk => hk.elim) ?aF ?aO ?aB ?aS ?aL ?_
                 (case aP => exact rfl)
                 (case aB => exact (by repeat (first | (with_reducible first | exact HB.out | apply below_alloc | apply pw_below_drewN | apply below_drew1) | exact HB.out)))
                 (case aF => exact (fun _ _ => trivial))
                 (case aO => exact (by (with_reducible repeat (first | apply Kd.R_alloc | apply Kd.R_drewN | apply Kd.R_drew)); exact HO_9.out))
                 (case aS => exact (below_size (by repeat (first | (with_reducible first | exact HB.out | apply below_alloc | apply pw_below_drewN | apply below_drew1) | exact HB.out))))
                 (case aL => have := LMc41.out; omega)
                 intro v322 w44 ho hb hg hat
                 rw [← Ny321.out] at ho
                 have n0_ := Aside0.mk (Kd.R_over' (by (with_reducible repeat (first | apply Kd.R_alloc | apply Kd.R_drewN | apply Kd.R_drew)); exact HO_6.out) (Kd.R_typed (by (with_reducible repeat (first | apply Kd.R_alloc | apply Kd.R_drewN | apply Kd.R_drew)); exact HO_9.out)) (by decide) hg)
                 have n1_ := Aside0.mk (hb)
                 have n2_ := Aside0.mk (ho)
                 clear HO_6
                 clear HB
                 clear HO_9
                 have HO_6 := n0_
                 have HB := n1_
                 have HO323 := n2_
                 clear n0_ n1_ n2_
                 clear ho hb hg hat
                 refine hK.out _ _ ?_
                 clear hK K
                 refine norm_ (a' := ?_) ?_ ?_
                 rotate_left
                 ·show Act.put _ (some 85) _ = _
                  simp only [Act.put, List.setIfInBounds_toArray, List.set_cons_zero, List.set_cons_succ, i64_w, i32_w]
                  rfl
                 refine pure_ (i := 16) (N := some 9) (v := ?_) (a' := ?_) #[true, true, true, true, true, true, true, true, true, true, true, true, true, true, true, true, true] rfl rfl (any_of HT_.out (by kernel_rfl)) (fun _ _ _ h => h) (Or.inl ⟨by rfl, ?_⟩) ?_ ?_
                 rotate_left
                 ·intro w'
                  go_simp
                  with_reducible rfl
                 rotate_left
                 ·simp only [Act.put, List.setIfInBounds_toArray, List.set_cons_zero, List.set_cons_succ, i64_w, i32_w]
                  rfl
                 refine done_ (done_of HT_.out (by kernel_rfl)) ?_
                 try go_wp2
                 go_roundg k3
                 case measure => have := HJ2.out; have := HJ20.out; have := HK3.out; omega
                 case rel => exact ⟨(y321), (wrap64 (x10_3 + 2)), (by first | rfl | (simp; done) | (simp [*]; done)), H', ⟨by have := HJ2.out; have := HJ20.out; have := HK3.out; omega⟩, ⟨by (with_reducible repeat (first | apply Kd.R_alloc | apply Kd.R_drewN | apply Kd.R_drew)); exact HO_6.out⟩, ⟨by (with_reducible repeat (first | apply Kd.R_alloc | apply Kd.R_drewN | apply Kd.R_drew)); exact HO323.out⟩, ⟨by repeat (first | (with_reducible first | exact HB.out | apply below_alloc | apply pw_below_drewN | apply below_drew1) | exact HB.out)⟩⟩
                ·rw [if_neg c41] at H
                 exact absurd H (by simp)
               ·rw [if_neg c40] at H
                exact absurd H (by simp)
              ·rw [if_neg c39] at H
               exact absurd H (by simp)
             ·rw [if_neg c38] at H
              exact absurd H (by simp)
            ·rw [if_neg c36] at H
             have c36b0 : decide (x10_3 < (t312.length : Int)) = false := decide_eq_false c36
             clear c36
             simp only [Option.some.injEq, Prod.mk.injEq] at H
             obtain ⟨rfl, rfl, rfl⟩ := H
             obtain ⟨Ao45, co45, eo45⟩ := Kd.R_slice HO_6.out
             subst eo45
             go_wp2
             go_ret3
             exact ⟨_, by first | rfl | (simp [errW_none, errW_some] <;> rfl) | (simp [*, errW_none, errW_some] <;> rfl), by (with_reducible repeat (first | apply Kd.R_alloc | apply Kd.R_drewN | apply Kd.R_drew)); exact HO_9.out, by repeat (first | (with_reducible first | exact HB.out | apply below_alloc | apply pw_below_drewN | apply below_drew1) | exact HB.out)⟩
      ·rw [if_neg c17] at H
       exact absurd H (by simp)
     ·rw [if_neg c16] at H
      exact absurd H (by simp)
    ·rw [if_neg c15] at H
     exact absurd H (by simp)
def greet_flags.f (a0_0 : Int) (a0_1 : Int) (a0_2 : Bool) : Option (Int) := if a0_2 = true then (some (Go.bits .or .u64 109 2)) else (some 109)
set_option maxHeartbeats 8000000 in
set_option maxRecDepth 100000 in
theorem greet_flags.calls (a0_0 : Int) (a0_1 : Int) (a0_2 : Bool) (r : Int) (w : World) (h : greet_flags.f a0_0 a0_1 a0_2 = some r) :
  Calls Tryd.prog 90 #[.agg #[.int .u32 a0_0, .int .u64 a0_1, .bool a0_2]] w fun e w' => e = .returned (.int .u64 r) ∧ Below w.heap.size w w' := by
 have hu44 := Tryd.underlying44
 have HB := Aside0.mk (Below.refl w.heap.size w)
 have H : (if a0_2 = true then (some (Go.bits .or .u64 109 2)) else (some 109)) = some r := h
 clear h
 by_cases c2 : a0_2 = true
 ·subst c2
  have H1 : (some (Go.bits .or .u64 109 2)) = some r := by rw [if_pos rfl] at H; exact H
  clear H
  have H := H1
  clear H1
  obtain rfl := Option.some.inj H
  go_enter Tryd.func90, Tryd.ntmps90
  go_wp2_with (first | ((with_reducible refine gate_dst (N := 1) rfl ?_); refine box_event ?hg (N := 1) ?hd (cs := #[.int .u32 a0_0, .int .u64 a0_1, .bool true]) (t := 44) ?hr ?_; (case hd => rfl); (case hg => rfl); (case hr => first | (go_simp; done) | (go_simp; rfl) | (go_simp; simp only [IntKind.wrap_u32, Int.emod_add_emod, Int.add_emod_emod])); intro gb324 hg w3 hbox hb; have n0_ := Aside0.mk (below_step (by repeat (first | (with_reducible first | exact HB.out | apply below_alloc | apply pw_below_drewN | apply below_drew1) | exact HB.out)) hb); have n1_ := Aside0.mk (hbox); have n2_ := Aside0.mk ((by rw [hg]; exact (below_size (by repeat (first | (with_reducible first | exact HB.out | apply below_alloc | apply pw_below_drewN | apply below_drew1) | exact HB.out))) : w.heap.size ≤ gb324)); have n3_ := Aside0.mk ((by rw [hg]; exact (below_size (by repeat (first | (with_reducible first | exact HB.out | apply below_alloc | apply pw_below_drewN | apply below_drew1) | exact HB.out))) : w.heap.size ≤ gb324)); clear HB; have HB := n0_; have BK324 := n1_; have GW324 := n2_; have GE324 := n3_; clear n0_ n1_ n2_ n3_; clear hb hbox hg; have hcz4_0 : w3.cell? ⟨gb324, 0, none⟩ = some (.int .u32 a0_0) := (blk_cell BK324.out 0).trans rfl; have hcz4_1 : w3.cell? ⟨gb324, 1, none⟩ = some (.int .u64 a0_1) := (blk_cell BK324.out 1).trans rfl; have hcz4_2 : w3.cell? ⟨gb324, 2, none⟩ = some (.bool true) := (blk_cell BK324.out 2).trans rfl; have hfz4_0 := blk_frozen BK324.out 0; have hfz4_1 := blk_frozen BK324.out 1; have hfz4_2 := blk_frozen BK324.out 2))
  go_ret
  exact ⟨by first | rfl | (simp [errW_none, errW_some] <;> rfl) | (simp [*, errW_none, errW_some] <;> rfl), by repeat (first | (with_reducible first | exact HB.out | apply below_alloc | apply pw_below_drewN | apply below_drew1 | refine below_set ?_ GE324.out) | exact HB.out)⟩
 ·replace c2 := Bool.eq_false_iff.mpr c2
  subst c2
  have H1 : (some 109) = some r := by rw [if_neg (show ¬ (false = true) by decide)] at H; exact H
  clear H
  have H := H1
  clear H1
  obtain rfl := Option.some.inj H
  go_enter Tryd.func90, Tryd.ntmps90
  go_wp2_with (first | ((with_reducible refine gate_dst (N := 1) rfl ?_); refine box_event ?hg (N := 1) ?hd (cs := #[.int .u32 a0_0, .int .u64 a0_1, .bool false]) (t := 44) ?hr ?_; (case hd => rfl); (case hg => rfl); (case hr => first | (go_simp; done) | (go_simp; rfl) | (go_simp; simp only [IntKind.wrap_u32, Int.emod_add_emod, Int.add_emod_emod])); intro gb324 hg w5 hbox hb; have n0_ := Aside0.mk (below_step (by repeat (first | (with_reducible first | exact HB.out | apply below_alloc | apply pw_below_drewN | apply below_drew1) | exact HB.out)) hb); have n1_ := Aside0.mk (hbox); have n2_ := Aside0.mk ((by rw [hg]; exact (below_size (by repeat (first | (with_reducible first | exact HB.out | apply below_alloc | apply pw_below_drewN | apply below_drew1) | exact HB.out))) : w.heap.size ≤ gb324)); have n3_ := Aside0.mk ((by rw [hg]; exact (below_size (by repeat (first | (with_reducible first | exact HB.out | apply below_alloc | apply pw_below_drewN | apply below_drew1) | exact HB.out))) : w.heap.size ≤ gb324)); clear HB; have HB := n0_; have BK324 := n1_; have GW324 := n2_; have GE324 := n3_; clear n0_ n1_ n2_ n3_; clear hb hbox hg; have hcz6_0 : w5.cell? ⟨gb324, 0, none⟩ = some (.int .u32 a0_0) := (blk_cell BK324.out 0).trans rfl; have hcz6_1 : w5.cell? ⟨gb324, 1, none⟩ = some (.int .u64 a0_1) := (blk_cell BK324.out 1).trans rfl; have hcz6_2 : w5.cell? ⟨gb324, 2, none⟩ = some (.bool false) := (blk_cell BK324.out 2).trans rfl; have hfz6_0 := blk_frozen BK324.out 0; have hfz6_1 := blk_frozen BK324.out 1; have hfz6_2 := blk_frozen BK324.out 2))
  go_ret
  exact ⟨by first | rfl | (simp [errW_none, errW_some] <;> rfl) | (simp [*, errW_none, errW_some] <;> rfl), by repeat (first | (with_reducible first | exact HB.out | apply below_alloc | apply pw_below_drewN | apply below_drew1 | refine below_set ?_ GE324.out) | exact HB.out)⟩
end Go.Proofs.YtgljicdpcapgnaaDoor.PBase
namespace Go.Proofs.YtgljicdpcapgnaaDoor.PBase
open Go.RowKit Go.Proofs.YtgljicdpcapgnaaDoorW.PrintWords Go.Proofs.YtgljicdpcapgnaaDoorW.PrintLast Go.Proofs.YtgljicdpcapgnaaDoorW.PrintMore
attribute [local go_sem] max2_int min2_int max_two min_two max_three min_three max_four min_four   -- for this text's walks alone
set_option linter.unusedVariables false
set_option linter.unusedSimpArgs false
def greet_Info.f (k : Nat) (a0_0 : Int) (a0_1 : Int) (a0_2 : Bool) : Option (List Int) := (greet_flags.f a0_0 a0_1 a0_2).bind fun t329 => ((wire_Pack.f k (([2, 8, 2] : List Int)) (([0, a0_1, t329] : List Int))).bind fun t333 => (some t333))
def greet_Info.T1 : Bool × List (List Nat × List Nat) := (true, [([], []), ([], []), ([1], [1]), ([], []), ([3], [3]), ([2, 4], [2, 4]), ([0, 5, 4], [0, 5]), ([6, 6, 0, 1, 2, 3, 4, 5, 6], [6])])
def greet_Info.B1 : List Nat := [0, 0, 2, 0, 8, 30, 63, 127]
theorem greet_Info.tab1 : rtab .any (opsOf Tryd.f84 1) = greet_Info.T1 := by kernel_rfl
theorem greet_Info.bits1 : waitsOk greet_Info.T1.2 greet_Info.B1 = true := by kernel_rfl
set_option maxHeartbeats 8000000 in
set_option maxRecDepth 100000 in
theorem greet_Info.calls (k : Nat) (a0_0 : Int) (a0_1 : Int) (a0_2 : Bool) (r : List Int) (w : World) (h : greet_Info.f k a0_0 a0_1 a0_2 = some r) :
  Calls Tryd.prog 84 #[.agg #[.int .u32 a0_0, .int .u64 a0_1, .bool a0_2]] w fun e w' => ∃ v0_ : Value, e = .returned (v0_) ∧ Kd.R (Kd.int .u8) 5 w' w.heap.size (fun _ => True) v0_ r ∧ Below w.heap.size w w' := by
 have hu44 := Tryd.underlying44
 have HB := Aside0.mk (Below.refl w.heap.size w)
 have H : ((greet_flags.f a0_0 a0_1 a0_2).bind fun t329 => ((wire_Pack.f k (([2, 8, 2] : List Int)) (([0, a0_1, t329] : List Int))).bind fun t333 => (some t333))) = some r := h
 clear h
 obtain ⟨y326, hy326⟩ : ∃ y_ : List Int, y_ = (([2, 8, 2] : List Int)) := ⟨_, rfl⟩
 replace H : ((greet_flags.f a0_0 a0_1 a0_2).bind fun t329 => ((wire_Pack.f k y326 (([0, a0_1, t329] : List Int))).bind fun t333 => (some t333))) = some r := by first | (rw [hy326]; with_reducible exact H) | (have H2_ := (Option.bind_some _ _).symm.trans H; rw [hy326]; with_reducible exact H2_) | (have H2_ := (Option.bind_some _ _).symm.trans H; with_reducible exact H2_) | with_reducible exact H | (rw [hy326]; exact H) | exact H
 have Ny326 := Aside0.mk hy326
 clear hy326
 replace H := Option.bind_eq_some_iff.mp H
 obtain ⟨t329, A20, H⟩ := H
 replace H : ((wire_Pack.f k y326 (([0, a0_1, t329] : List Int))).bind fun t333 => (some t333)) = some r := H
 have A2 := Aside0.mk A20
 clear A20
 obtain ⟨y330, hy330⟩ : ∃ y_ : List Int, y_ = (([0, a0_1, t329] : List Int)) := ⟨_, rfl⟩
 replace H : ((wire_Pack.f k y326 y330).bind fun t333 => (some t333)) = some r := by first | (rw [hy330]; with_reducible exact H) | (have H2_ := (Option.bind_some _ _).symm.trans H; rw [hy330]; with_reducible exact H2_) | (have H2_ := (Option.bind_some _ _).symm.trans H; with_reducible exact H2_) | with_reducible exact H | (rw [hy330]; exact H) | exact H
 have Ny330 := Aside0.mk hy330
 clear hy330
 replace H := Option.bind_eq_some_iff.mp H
 obtain ⟨t333, A30, H⟩ := H
 replace H : (some t333) = some r := H
 have A3 := Aside0.mk A30
 clear A30
 obtain rfl := Option.some.inj H
 go_enter Tryd.func84, Tryd.ntmps84
 try go_wp2_with (first | ((with_reducible refine gate_dst (N := 1) rfl ?_); refine box_event ?hg (N := 1) ?hd (cs := #[.int .u32 a0_0, .int .u64 a0_1, .bool a0_2]) (t := 44) ?hr ?_; (case hd => rfl); (case hg => rfl); (case hr => first | (go_simp; done) | (go_simp; rfl) | (go_simp; simp only [IntKind.wrap_u32, Int.emod_add_emod, Int.add_emod_emod])); intro gb325 hg w4 hbox hb; have n0_ := Aside0.mk (below_step (by repeat (first | (with_reducible first | exact HB.out | apply below_alloc | apply pw_below_drewN | apply below_drew1) | exact HB.out)) hb); have n1_ := Aside0.mk (hbox); have n2_ := Aside0.mk ((by rw [hg]; exact (below_size (by repeat (first | (with_reducible first | exact HB.out | apply below_alloc | apply pw_below_drewN | apply below_drew1) | exact HB.out))) : w.heap.size ≤ gb325)); have n3_ := Aside0.mk ((by rw [hg]; exact (below_size (by repeat (first | (with_reducible first | exact HB.out | apply below_alloc | apply pw_below_drewN | apply below_drew1) | exact HB.out))) : w.heap.size ≤ gb325)); clear HB; have HB := n0_; have BK325 := n1_; have GW325 := n2_; have GE325 := n3_; clear n0_ n1_ n2_ n3_; clear hb hbox hg))
 have n0_ := Aside0.mk (blk_drew BK325.out)
 have n1_ := Aside0.mk (below_drew1 HB.out)
 clear BK325
 clear HB
 have BK325 := n0_
 have HB := n1_
 clear n0_ n1_
 refine start_ (n := 8) (S := fun w' => True) (ds := []) #[false, false, false, false, false, false, false, false] (by kernel_rfl) rfl rfl trivial (fun hHeld => ?_); refine with_tabW greet_Info.tab1 greet_Info.bits1 (fun HT_ HW_ => ?_)
 generalize w4.drew = w5 at BK325 HB hHeld ⊢
 refine pure_ (i := 1) (N := some 4) (v := ?_) (a' := ?_) #[false, true, false, false, false, false, false, false] rfl rfl (any_of HT_.out (by kernel_rfl)) (fun _ _ _ h => h) (Or.inl ⟨by rfl, ?_⟩) ?_ ?_
 rotate_left
 ·intro w'
  go_simp
  with_reducible rfl
 rotate_left
 ·simp only [Act.put, List.setIfInBounds_toArray, List.set_cons_zero, List.set_cons_succ, i64_w, i32_w]
  rfl
 refine inv_at [0, 2, 3, 4, 5, 6, 7] (fun a0_ b a w' => ∃ (v327 : Value) (v331 : Value) (v334 : Value) (m7_ : Value), a = putSel a0_ b [(0, 3, v327), (2, 5, .int .u64 a0_1), (3, 6, .agg #[.int .u32 a0_0, .int .u64 a0_1, .bool a0_2]), (4, 7, .int .u64 t329), (5, 8, v331), (6, 9, v334), (7, 2, m7_)] ∧ (w'.heap[gb325]? = some (.cells #[.int .u32 a0_0, .int .u64 a0_1, .bool a0_2] 44 (0, 0))) ∧ (Below w.heap.size w w') ∧ (b 0 = true → Kd.R (Kd.int .i64) 3 w' w.heap.size (fun _ => True) v327 y326) ∧ (b 5 = true → Kd.R (Kd.int .u64) 42 w' w.heap.size (fun _ => True) v331 y330) ∧ (b 6 = true → Kd.R (Kd.int .u8) 5 w' w.heap.size (fun _ => True) v334 t333) ∧ (b 7 = true → (m7_ : Value) = v334)) HT_.out HW_.out (by kernel_rfl) (by kernel_rfl) ?_ ?_ ?_
 ·exact ⟨.bool false, .bool false, .bool false, .bool false, by simp only [putSel, Bool.false_eq_true, if_false], BK325.out, HB.out, fun h_ => absurd h_ (by decide), fun h_ => absurd h_ (by decide), fun h_ => absurd h_ (by decide), fun h_ => absurd h_ (by decide)⟩
 ·skip
  clear BK325 HB
  refine steps_cons ?_ ?_
  ·rintro b a w' ⟨v327, v331, v334, m7_, ha, Q_BK325, Q_HB, Q_HO328, Q_HO332, Q_HO335, Q_X7_⟩ hb_ hon hoff
   refine ⟨_, rfl, fun K hK => ?_⟩
   replace ha := Aside0.mk ha
   have BK325 := Aside0.mk Q_BK325
   have HB := Aside0.mk Q_HB
   refine Kd.R_lit_step (Kd.int .i64) _ 3 ?hg (N := 3) ?hd (xs := ([2, 8, 2] : List Int)) (inner := [.int .i64 2, .int .i64 8, .int .i64 2]) (ok := fun _ => True) (okp := fun _ => True) ?hr ?hp (fun _ hk => hk) trivial (Below.refl _ _) (Nat.le_refl _) (by simp) ?_; (case hd => rfl); (case hg => rfl); (case hr => first | (go_simp; done) | (go_simp; rfl) | (go_simp; simp only [IntKind.wrap_u32, Int.emod_add_emod, Int.add_emod_emod])); (case hp => exact (Reps.one (show Kd.M (Kd.int .i64) _ _ _ 2 [.int .i64 2] from rfl) (Reps.one (show Kd.M (Kd.int .i64) _ _ _ 8 [.int .i64 8] from rfl) (Reps.one (show Kd.M (Kd.int .i64) _ _ _ 2 [.int .i64 2] from rfl) (Reps.none _ _)))))
   intro v327 w6 ho7 hb hg_ hnew_
   clear hg_ hnew_
   (first | rw [← Ny326.out] at ho7 | (simp only [Int.reduceToNat] at ho7; rw [← Ny326.out] at ho7))
   have n0_ := Aside0.mk (Kd.R_lower ho7 (below_size (by repeat (first | (with_reducible first | exact HB.out | apply below_alloc | apply pw_below_drewN | apply below_drew1 | refine below_set ?_ GE325.out) | exact HB.out))))
   have n1_ := Aside0.mk (blk_below (g := gb325) (o := .cells #[.int .u32 a0_0, .int .u64 a0_1, .bool a0_2] 44 (0, 0)) (by (with_reducible repeat (first | refine blk_drewN ?_ _ | refine blk_drew ?_ | refine blk_alloc ?_ _)); exact BK325.out) hb)
   have n2_ := Aside0.mk (below_step (by repeat (first | (with_reducible first | exact HB.out | apply below_alloc | apply pw_below_drewN | apply below_drew1 | refine below_set ?_ GE325.out) | exact HB.out)) hb)
   have z_HO332 := fun (h0_ : b 5 = true) => (show Kd.R (Kd.int .u64) 42 w6 w.heap.size (fun _ => True) v331 y330 from by first | exact (Kd.R_below (by (with_reducible repeat (first | apply Kd.R_alloc | apply Kd.R_drewN | apply Kd.R_drew)); exact (Q_HO332 h0_)) hb) | exact Kd.R_mono (Kd.R_below (by (with_reducible repeat (first | apply Kd.R_alloc | apply Kd.R_drewN | apply Kd.R_drew)); exact (Q_HO332 h0_)) hb) (fun _ h_ => by first | trivial | exact h_ | exact h_.1))
   clear BK325
   clear HB
   have HO328 := n0_
   have BK325 := n1_
   have HB := n2_
   clear n0_ n1_ n2_
   clear hb ho7
   refine hK.out _ _ ⟨v327, v331, v334, m7_, (by rw [ha.out]; exact putSel_upk 0 hb_ rfl rfl rfl), (by (with_reducible repeat (first | refine blk_drewN ?_ _ | refine blk_drew ?_ | refine blk_alloc ?_ _)); exact BK325.out), (by repeat (first | (with_reducible first | exact HB.out | apply below_alloc | apply pw_below_drewN | apply below_drew1 | refine below_set ?_ GE325.out) | exact HB.out)), fun _ => (by (with_reducible repeat (first | apply Kd.R_alloc | apply Kd.R_drewN | apply Kd.R_drew)); exact HO328.out), z_HO332, fun h0_ => absurd ((hoff 6 (by kernel_rfl)).symm.trans h0_) (by decide), fun h0_ => absurd ((hoff 7 (by kernel_rfl)).symm.trans h0_) (by decide)⟩
  refine steps_cons ?_ ?_
  ·rintro b a w' ⟨v327, v331, v334, m7_, ha, Q_BK325, Q_HB, Q_HO328, Q_HO332, Q_HO335, Q_X7_⟩ hb_ hon hoff
   refine ⟨_, rfl, fun K hK => ?_⟩
   have e4 : a.tmps[4]? = some (.pointer (some ⟨gb325, 1, none⟩)) := by rw [ha]; exact (putSel_off rfl).trans rfl
   replace ha := Aside0.mk ha
   have BK325 := Aside0.mk Q_BK325
   have HB := Aside0.mk Q_HB
   have hc0_ : w'.cell? ⟨gb325, 0, none⟩ = some (.int .u32 a0_0) := (blk_cell BK325.out 0).trans rfl
   have hc1_ : w'.cell? ⟨gb325, 1, none⟩ = some (.int .u64 a0_1) := (blk_cell BK325.out 1).trans rfl
   have hc2_ : w'.cell? ⟨gb325, 2, none⟩ = some (.bool a0_2) := (blk_cell BK325.out 2).trans rfl
   refine value_ (w1 := w') (v := .int .u64 a0_1) (by rfl) rfl ?_ ?_
   ·go_simp
    (try simp only [i64_w])
    try rfl
   refine hK.out _ _ ⟨v327, v331, v334, m7_, (by rw [ha.out]; exact putSel_upk 1 hb_ rfl rfl rfl), Q_BK325, Q_HB, Q_HO328, fun h0_ => absurd ((hoff 5 (by kernel_rfl)).symm.trans h0_) (by decide), fun h0_ => absurd ((hoff 6 (by kernel_rfl)).symm.trans h0_) (by decide), fun h0_ => absurd ((hoff 7 (by kernel_rfl)).symm.trans h0_) (by decide)⟩
  refine steps_cons ?_ ?_
  ·rintro b a w' ⟨v327, v331, v334, m7_, ha, Q_BK325, Q_HB, Q_HO328, Q_HO332, Q_HO335, Q_X7_⟩ hb_ hon hoff
   refine ⟨_, rfl, fun K hK => ?_⟩
   have e1 : a.tmps[1]? = some (.pointer (some ⟨gb325, 0, none⟩)) := by rw [ha]; exact (putSel_off rfl).trans rfl
   replace ha := Aside0.mk ha
   have BK325 := Aside0.mk Q_BK325
   have HB := Aside0.mk Q_HB
   have hc0_ : w'.cell? ⟨gb325, 0, none⟩ = some (.int .u32 a0_0) := (blk_cell BK325.out 0).trans rfl
   have hc1_ : w'.cell? ⟨gb325, 1, none⟩ = some (.int .u64 a0_1) := (blk_cell BK325.out 1).trans rfl
   have hc2_ : w'.cell? ⟨gb325, 2, none⟩ = some (.bool a0_2) := (blk_cell BK325.out 2).trans rfl
   refine value_ (w1 := w') (v := .agg #[.int .u32 a0_0, .int .u64 a0_1, .bool a0_2]) (by rfl) rfl ?_ ?_
   ·go_simp
    (try simp only [i64_w])
    try rfl
   refine hK.out _ _ ⟨v327, v331, v334, m7_, (by rw [ha.out]; exact putSel_upk 2 hb_ rfl rfl rfl), Q_BK325, Q_HB, Q_HO328, fun h0_ => absurd ((hoff 5 (by kernel_rfl)).symm.trans h0_) (by decide), fun h0_ => absurd ((hoff 6 (by kernel_rfl)).symm.trans h0_) (by decide), fun h0_ => absurd ((hoff 7 (by kernel_rfl)).symm.trans h0_) (by decide)⟩
  refine steps_cons ?_ ?_
  ·rintro b a w' ⟨v327, v331, v334, m7_, ha, Q_BK325, Q_HB, Q_HO328, Q_HO332, Q_HO335, Q_X7_⟩ hb_ hon hoff
   refine ⟨_, rfl, fun K hK => ?_⟩
   have e6 : a.tmps[6]? = some (.agg #[.int .u32 a0_0, .int .u64 a0_1, .bool a0_2]) := by rw [ha]; exact putSel_on (e := (3, 6, .agg #[.int .u32 a0_0, .int .u64 a0_1, .bool a0_2])) 2 rfl rfl (hon 3 (by kernel_rfl)) rfl
   replace ha := Aside0.mk ha
   have BK325 := Aside0.mk Q_BK325
   have HB := Aside0.mk Q_HB
   refine goes_ Tryd.func90 (by kernel_rfl) rfl #[.agg #[.int .u32 a0_0, .int .u64 a0_1, .bool a0_2]] (by rfl) rfl rfl (by first | (simp only [List.map_toArray, List.map_cons, List.map_nil, Act.eval, Array.getD_eq_getD_getElem?, Option.getD_some, e6]; done) | (simp only [List.map_toArray, List.map_cons, List.map_nil, Act.eval, Array.getD_eq_getD_getElem?, Option.getD_some, e6]; rfl)) ?_
   with_reducible refine (greet_flags.calls a0_0 a0_1 a0_2 t329 _ A2.out).mono ?_
   rintro e w6 ⟨rfl, hb⟩
   refine ⟨_, rfl, ?_⟩
   have n0_ := Aside0.mk (blk_below (g := gb325) (o := .cells #[.int .u32 a0_0, .int .u64 a0_1, .bool a0_2] 44 (0, 0)) (by (with_reducible repeat (first | refine blk_drewN ?_ _ | refine blk_drew ?_ | refine blk_alloc ?_ _)); exact BK325.out) hb)
   have n1_ := Aside0.mk (below_step (by repeat (first | (with_reducible first | exact HB.out | apply below_alloc | apply pw_below_drewN | apply below_drew1 | refine below_set ?_ GE325.out) | exact HB.out)) hb)
   have z_HO328 := fun (h0_ : b 0 = true) => (show Kd.R (Kd.int .i64) 3 w6 w.heap.size (fun _ => True) v327 y326 from by first | exact (Kd.R_below (by (with_reducible repeat (first | apply Kd.R_alloc | apply Kd.R_drewN | apply Kd.R_drew)); exact (Q_HO328 h0_)) hb) | exact Kd.R_mono (Kd.R_below (by (with_reducible repeat (first | apply Kd.R_alloc | apply Kd.R_drewN | apply Kd.R_drew)); exact (Q_HO328 h0_)) hb) (fun _ h_ => by first | trivial | exact h_ | exact h_.1))
   clear BK325
   clear HB
   have BK325 := n0_
   have HB := n1_
   clear n0_ n1_
   (try clear hb)
   (try clear hb2)
   (try clear hk)
   (try clear hi)
   refine hK.out _ _ ⟨v327, v331, v334, m7_, (by rw [ha.out]; exact putSel_upk 3 hb_ rfl rfl rfl), (by (with_reducible repeat (first | refine blk_drewN ?_ _ | refine blk_drew ?_ | refine blk_alloc ?_ _)); exact BK325.out), (by repeat (first | (with_reducible first | exact HB.out | apply below_alloc | apply pw_below_drewN | apply below_drew1 | refine below_set ?_ GE325.out) | exact HB.out)), z_HO328, fun h0_ => absurd ((hoff 5 (by kernel_rfl)).symm.trans h0_) (by decide), fun h0_ => absurd ((hoff 6 (by kernel_rfl)).symm.trans h0_) (by decide), fun h0_ => absurd ((hoff 7 (by kernel_rfl)).symm.trans h0_) (by decide)⟩
  refine steps_cons ?_ ?_
  ·rintro b a w' ⟨v327, v331, v334, m7_, ha, Q_BK325, Q_HB, Q_HO328, Q_HO332, Q_HO335, Q_X7_⟩ hb_ hon hoff
   refine ⟨_, rfl, fun K hK => ?_⟩
   have e5 : a.tmps[5]? = some (.int .u64 a0_1) := by rw [ha]; exact putSel_on (e := (2, 5, .int .u64 a0_1)) 1 rfl rfl (hon 2 (by kernel_rfl)) rfl
   have e7 : a.tmps[7]? = some (.int .u64 t329) := by rw [ha]; exact putSel_on (e := (4, 7, .int .u64 t329)) 3 rfl rfl (hon 4 (by kernel_rfl)) rfl
   replace ha := Aside0.mk ha
   have BK325 := Aside0.mk Q_BK325
   have HB := Aside0.mk Q_HB
   refine Kd.R_lit_step (Kd.int .u64) _ 42 ?hg (N := 8) ?hd (xs := ([0, a0_1, t329] : List Int)) (inner := [.int .u64 0, .int .u64 a0_1, .int .u64 t329]) (ok := fun _ => True) (okp := fun _ => True) ?hr ?hp (fun _ hk => hk) trivial (Below.refl _ _) (Nat.le_refl _) (by simp) ?_; (case hd => rfl); (case hg => rfl); (case hr => first | (go_simp; done) | (go_simp; rfl) | (go_simp; simp only [IntKind.wrap_u32, Int.emod_add_emod, Int.add_emod_emod])); (case hp => exact (Reps.one (show Kd.M (Kd.int .u64) _ _ _ 0 [.int .u64 0] from rfl) (Reps.one (show Kd.M (Kd.int .u64) _ _ _ a0_1 [.int .u64 a0_1] from rfl) (Reps.one (show Kd.M (Kd.int .u64) _ _ _ t329 [.int .u64 t329] from rfl) (Reps.none _ _)))))
   intro v331 w8 ho9 hb hg_ hnew_
   clear hg_ hnew_
   (first | rw [← Ny330.out] at ho9 | (simp only [Int.reduceToNat] at ho9; rw [← Ny330.out] at ho9))
   have n0_ := Aside0.mk (Kd.R_lower ho9 (below_size (by repeat (first | (with_reducible first | exact HB.out | apply below_alloc | apply pw_below_drewN | apply below_drew1 | refine below_set ?_ GE325.out) | exact HB.out))))
   have n1_ := Aside0.mk (blk_below (g := gb325) (o := .cells #[.int .u32 a0_0, .int .u64 a0_1, .bool a0_2] 44 (0, 0)) (by (with_reducible repeat (first | refine blk_drewN ?_ _ | refine blk_drew ?_ | refine blk_alloc ?_ _)); exact BK325.out) hb)
   have n2_ := Aside0.mk (below_step (by repeat (first | (with_reducible first | exact HB.out | apply below_alloc | apply pw_below_drewN | apply below_drew1 | refine below_set ?_ GE325.out) | exact HB.out)) hb)
   have z_HO328 := fun (h0_ : b 0 = true) => (show Kd.R (Kd.int .i64) 3 w8 w.heap.size (fun _ => True) v327 y326 from by first | exact (Kd.R_below (by (with_reducible repeat (first | apply Kd.R_alloc | apply Kd.R_drewN | apply Kd.R_drew)); exact (Q_HO328 h0_)) hb) | exact Kd.R_mono (Kd.R_below (by (with_reducible repeat (first | apply Kd.R_alloc | apply Kd.R_drewN | apply Kd.R_drew)); exact (Q_HO328 h0_)) hb) (fun _ h_ => by first | trivial | exact h_ | exact h_.1))
   clear BK325
   clear HB
   have HO332 := n0_
   have BK325 := n1_
   have HB := n2_
   clear n0_ n1_ n2_
   clear hb ho9
   refine hK.out _ _ ⟨v327, v331, v334, m7_, (by rw [ha.out]; exact putSel_upk 4 hb_ rfl rfl rfl), (by (with_reducible repeat (first | refine blk_drewN ?_ _ | refine blk_drew ?_ | refine blk_alloc ?_ _)); exact BK325.out), (by repeat (first | (with_reducible first | exact HB.out | apply below_alloc | apply pw_below_drewN | apply below_drew1 | refine below_set ?_ GE325.out) | exact HB.out)), z_HO328, fun _ => (by (with_reducible repeat (first | apply Kd.R_alloc | apply Kd.R_drewN | apply Kd.R_drew)); exact HO332.out), fun h0_ => absurd ((hoff 6 (by kernel_rfl)).symm.trans h0_) (by decide), fun h0_ => absurd ((hoff 7 (by kernel_rfl)).symm.trans h0_) (by decide)⟩
  refine steps_cons ?_ ?_
  ·rintro b a w' ⟨v327, v331, v334, m7_, ha, Q_BK325, Q_HB, Q_HO328, Q_HO332, Q_HO335, Q_X7_⟩ hb_ hon hoff
   refine ⟨_, rfl, fun K hK => ?_⟩
   have e3 : a.tmps[3]? = some (v327) := by rw [ha]; exact putSel_on (e := (0, 3, v327)) 0 rfl rfl (hon 0 (by kernel_rfl)) rfl
   have e8 : a.tmps[8]? = some (v331) := by rw [ha]; exact putSel_on (e := (5, 8, v331)) 4 rfl rfl (hon 5 (by kernel_rfl)) rfl
   replace ha := Aside0.mk ha
   have BK325 := Aside0.mk Q_BK325
   have HB := Aside0.mk Q_HB
   have HO328 := Aside0.mk (Q_HO328 (hon 0 (by kernel_rfl)))
   have HO332 := Aside0.mk (Q_HO332 (hon 5 (by kernel_rfl)))
   obtain ⟨Ao12, co12, eo12⟩ := Kd.R_slice HO328.out
   (first | subst eo12 | (injection eo12 with f1_ f2_ f3_; have f4_ := f1_.symm; have f5_ := f3_.symm; clear f1_ f2_ f3_; subst f4_; subst f5_))
   obtain ⟨Ao13, co13, eo13⟩ := Kd.R_slice HO332.out
   (first | subst eo13 | (injection eo13 with f1_ f2_ f3_; have f4_ := f1_.symm; have f5_ := f3_.symm; clear f1_ f2_ f3_; subst f4_; subst f5_))
   refine goes_ Tryd.func38 (by kernel_rfl) rfl #[.slice Ao12 y326.length co12, .slice Ao13 y330.length co13] (by rfl) rfl rfl (by first | (simp only [List.map_toArray, List.map_cons, List.map_nil, Act.eval, Array.getD_eq_getD_getElem?, Option.getD_some, e3, e8]; done) | (simp only [List.map_toArray, List.map_cons, List.map_nil, Act.eval, Array.getD_eq_getD_getElem?, Option.getD_some, e3, e8]; rfl)) ?_
   with_reducible refine (wire_Pack.calls k _ _ y326 _ _ y330 t333 _ ?side1 ?side2 ?side3 ?side4 A3.out).mono ?_
   (case side1 => repeat (first | exact (Kd.R_reads' HO328.out).2.2 | (with_reducible refine Kd.C_alloc ?_ _) | (with_reducible refine Kd.C_drewN ?_ _) | (with_reducible refine Kd.C_drew ?_)))
   (case side2 => exact (Kd.R_reads' HO328.out).2.1)
   (case side3 => repeat (first | exact (Kd.R_reads' HO332.out).2.2 | (with_reducible refine Kd.C_alloc ?_ _) | (with_reducible refine Kd.C_drewN ?_ _) | (with_reducible refine Kd.C_drew ?_)))
   (case side4 => exact (Kd.R_reads' HO332.out).2.1)
   rintro e w14 ⟨v334, rfl, ho0, hb⟩
   refine ⟨_, rfl, ?_⟩
   have n0_ := Aside0.mk (Kd.R_below (by (with_reducible repeat (first | apply Kd.R_alloc | apply Kd.R_drewN | apply Kd.R_drew)); exact HO328.out) hb)
   have n1_ := Aside0.mk (Kd.R_below (by (with_reducible repeat (first | apply Kd.R_alloc | apply Kd.R_drewN | apply Kd.R_drew)); exact HO332.out) hb)
   have n2_ := Aside0.mk (Kd.R_lower ho0 (below_size (by repeat (first | (with_reducible first | exact HB.out | apply below_alloc | apply pw_below_drewN | apply below_drew1 | refine below_set ?_ GE325.out) | exact HB.out))))
   have n3_ := Aside0.mk (blk_below (g := gb325) (o := .cells #[.int .u32 a0_0, .int .u64 a0_1, .bool a0_2] 44 (0, 0)) (by (with_reducible repeat (first | refine blk_drewN ?_ _ | refine blk_drew ?_ | refine blk_alloc ?_ _)); exact BK325.out) hb)
   have n4_ := Aside0.mk (below_step (by repeat (first | (with_reducible first | exact HB.out | apply below_alloc | apply pw_below_drewN | apply below_drew1 | refine below_set ?_ GE325.out) | exact HB.out)) hb)
   clear HO328
   clear HO332
   clear BK325
   clear HB
   have HO328 := n0_
   have HO332 := n1_
   have HO335 := n2_
   have BK325 := n3_
   have HB := n4_
   clear n0_ n1_ n2_ n3_ n4_
   (try clear hb)
   (try clear hb2)
   (try clear hk)
   (try clear hi)
   (try clear ho0)
   refine hK.out _ _ ⟨.slice Ao12 y326.length co12, .slice Ao13 y330.length co13, v334, m7_, (by rw [ha.out]; exact putSel_upk 5 hb_ rfl rfl rfl), (by (with_reducible repeat (first | refine blk_drewN ?_ _ | refine blk_drew ?_ | refine blk_alloc ?_ _)); exact BK325.out), (by repeat (first | (with_reducible first | exact HB.out | apply below_alloc | apply pw_below_drewN | apply below_drew1 | refine below_set ?_ GE325.out) | exact HB.out)), fun _ => (by (with_reducible repeat (first | apply Kd.R_alloc | apply Kd.R_drewN | apply Kd.R_drew)); exact HO328.out), fun _ => (by (with_reducible repeat (first | apply Kd.R_alloc | apply Kd.R_drewN | apply Kd.R_drew)); exact HO332.out), fun _ => (by (with_reducible repeat (first | apply Kd.R_alloc | apply Kd.R_drewN | apply Kd.R_drew)); exact HO335.out), fun h0_ => absurd ((hoff 7 (by kernel_rfl)).symm.trans h0_) (by decide)⟩
  refine steps_cons ?_ ?_
  ·rintro b a w' ⟨v327, v331, v334, m7_, ha, Q_BK325, Q_HB, Q_HO328, Q_HO332, Q_HO335, Q_X7_⟩ hb_ hon hoff
   refine ⟨_, rfl, fun K hK => ?_⟩
   have e9 : a.tmps[9]? = some (v334) := by rw [ha]; exact putSel_on (e := (6, 9, v334)) 5 rfl rfl (hon 6 (by kernel_rfl)) rfl
   replace ha := Aside0.mk ha
   have BK325 := Aside0.mk Q_BK325
   have HB := Aside0.mk Q_HB
   have HO328 := Aside0.mk (Q_HO328 (hon 0 (by kernel_rfl)))
   have HO332 := Aside0.mk (Q_HO332 (hon 5 (by kernel_rfl)))
   have HO335 := Aside0.mk (Q_HO335 (hon 6 (by kernel_rfl)))
   refine value_ (w1 := w') (v := v334) (by rfl) rfl ?_ ?_
   ·go_simp
    (try simp only [i64_w])
    try rfl
   refine hK.out _ _ ⟨v327, v331, v334, (v334), (by rw [ha.out]; exact putSel_upk 6 hb_ rfl rfl rfl), Q_BK325, Q_HB, Q_HO328, Q_HO332, Q_HO335, fun _ => rfl⟩
  exact steps_nil
 rintro b a w14 hall ⟨v327, v331, v334, m7_, ha, Q_BK325, Q_HB, Q_HO328, Q_HO332, Q_HO335, Q_X7_⟩
 clear BK325 HB
 have hb0_ := hall 0 (by kernel_rfl)
 have hb2_ := hall 2 (by kernel_rfl)
 have hb3_ := hall 3 (by kernel_rfl)
 have hb4_ := hall 4 (by kernel_rfl)
 have hb5_ := hall 5 (by kernel_rfl)
 have hb6_ := hall 6 (by kernel_rfl)
 have hb7_ := hall 7 (by kernel_rfl)
 subst ha
 obtain rfl := Q_X7_ hb7_
 simp only [putSel, hb0_, hb2_, hb3_, hb4_, hb5_, hb6_, hb7_, if_true, Act.put, List.setIfInBounds_toArray, List.set_cons_zero, List.set_cons_succ]
 have BK325 := Aside0.mk Q_BK325
 clear Q_BK325
 have HB := Aside0.mk Q_HB
 clear Q_HB
 have HO328 := Aside0.mk (Q_HO328 hb0_)
 clear Q_HO328
 have HO332 := Aside0.mk (Q_HO332 hb5_)
 clear Q_HO332
 have HO335 := Aside0.mk (Q_HO335 hb6_)
 clear Q_HO335
 clear hall hb0_ hb2_ hb3_ hb4_ hb5_ hb6_ hb7_
 try go_wp2
 go_ret
 exact ⟨_, by first | rfl | (simp [errW_none, errW_some] <;> rfl) | (simp [*, errW_none, errW_some] <;> rfl), by (with_reducible repeat (first | apply Kd.R_alloc | apply Kd.R_drewN | apply Kd.R_drew)); exact HO335.out, by repeat (first | (with_reducible first | exact HB.out | apply below_alloc | apply pw_below_drewN | apply below_drew1 | refine below_set ?_ GE325.out) | exact HB.out)⟩
def greet_Blocks.f (k : Nat) (a0 : Int) : Option (List Int) := (wire_Pack.f k (([2, 4, 4, 4] : List Int)) (([3, 1, IntKind.u64.wrap (a0), 65536] : List Int))).bind fun t342 => (some t342)
set_option maxHeartbeats 8000000 in
set_option maxRecDepth 100000 in
theorem greet_Blocks.calls (k : Nat) (a0 : Int) (r : List Int) (w : World) (h : greet_Blocks.f k a0 = some r) :
  Calls Tryd.prog 86 #[.int .i64 a0] w fun e w' => ∃ v0_ : Value, e = .returned (v0_) ∧ Kd.R (Kd.int .u8) 5 w' w.heap.size (fun _ => True) v0_ r ∧ Below w.heap.size w w' := by
 have HB := Aside0.mk (Below.refl w.heap.size w)
 have H : ((wire_Pack.f k (([2, 4, 4, 4] : List Int)) (([3, 1, IntKind.u64.wrap (a0), 65536] : List Int))).bind fun t342 => (some t342)) = some r := h
 clear h
 obtain ⟨y336, hy336⟩ : ∃ y_ : List Int, y_ = (([2, 4, 4, 4] : List Int)) := ⟨_, rfl⟩
 replace H : ((wire_Pack.f k y336 (([3, 1, IntKind.u64.wrap (a0), 65536] : List Int))).bind fun t342 => (some t342)) = some r := by first | (rw [hy336]; with_reducible exact H) | (have H2_ := (Option.bind_some _ _).symm.trans H; rw [hy336]; with_reducible exact H2_) | (have H2_ := (Option.bind_some _ _).symm.trans H; with_reducible exact H2_) | with_reducible exact H | (rw [hy336]; exact H) | exact H
 have Ny336 := Aside0.mk hy336
 clear hy336
 obtain ⟨y339, hy339⟩ : ∃ y_ : List Int, y_ = (([3, 1, IntKind.u64.wrap (a0), 65536] : List Int)) := ⟨_, rfl⟩
 replace H : ((wire_Pack.f k y336 y339).bind fun t342 => (some t342)) = some r := by first | (rw [hy339]; with_reducible exact H) | (have H2_ := (Option.bind_some _ _).symm.trans H; rw [hy339]; with_reducible exact H2_) | (have H2_ := (Option.bind_some _ _).symm.trans H; with_reducible exact H2_) | with_reducible exact H | (rw [hy339]; exact H) | exact H
 have Ny339 := Aside0.mk hy339
 clear hy339
 replace H := Option.bind_eq_some_iff.mp H
 obtain ⟨t342, A20, H⟩ := H
 replace H : (some t342) = some r := H
 have A2 := Aside0.mk A20
 clear A20
 obtain rfl := Option.some.inj H
 go_enter Tryd.func86, Tryd.ntmps86
 go_wp2_with (first | ((with_reducible refine gate_dst (N := 3) rfl ?_); refine Kd.R_lit (Kd.int .i64) _ 3 ?hg (N := 3) ?hd (xs := ([2, 4, 4, 4] : List Int)) (inner := [.int .i64 2, .int .i64 4, .int .i64 4, .int .i64 4]) (ok := fun _ => True) (okp := fun _ => True) ?hr ?hp (fun _ hk => hk) trivial (Below.refl _ _) (Nat.le_refl _) (by simp) ?_; (case hd => rfl); (case hg => rfl); (case hr => first | (go_simp; done) | (go_simp; rfl) | (go_simp; simp only [IntKind.wrap_u32, Int.emod_add_emod, Int.add_emod_emod])); (case hp => exact (Reps.one (show Kd.M (Kd.int .i64) _ _ _ 2 [.int .i64 2] from rfl) (Reps.one (show Kd.M (Kd.int .i64) _ _ _ 4 [.int .i64 4] from rfl) (Reps.one (show Kd.M (Kd.int .i64) _ _ _ 4 [.int .i64 4] from rfl) (Reps.one (show Kd.M (Kd.int .i64) _ _ _ 4 [.int .i64 4] from rfl) (Reps.none _ _)))))); intro v337 w3 ho4 hb hg_ hnew_; clear hg_ hnew_; (first | rw [← Ny336.out] at ho4 | (simp only [Int.reduceToNat] at ho4; rw [← Ny336.out] at ho4)); have n0_ := Aside0.mk (Kd.R_lower ho4 (below_size (by repeat (first | (with_reducible first | exact HB.out | apply below_alloc | apply pw_below_drewN | apply below_drew1) | exact HB.out)))); have n1_ := Aside0.mk (below_step (by repeat (first | (with_reducible first | exact HB.out | apply below_alloc | apply pw_below_drewN | apply below_drew1) | exact HB.out)) hb); clear HB; have HO338 := n0_; have HB := n1_; clear n0_ n1_; clear hb ho4) | ((with_reducible refine gate_dst (N := 6) rfl ?_); refine Kd.R_lit (Kd.int .u64) _ 42 ?hg (N := 6) ?hd (xs := ([3, 1, IntKind.u64.wrap (a0), 65536] : List Int)) (inner := [.int .u64 3, .int .u64 1, .int .u64 (IntKind.u64.wrap (a0)), .int .u64 65536]) (ok := fun _ => True) (okp := fun _ => True) ?hr ?hp (fun _ hk => hk) trivial (Below.refl _ _) (Nat.le_refl _) (by simp) ?_; (case hd => rfl); (case hg => rfl); (case hr => first | (go_simp; done) | (go_simp; rfl) | (go_simp; simp only [IntKind.wrap_u32, Int.emod_add_emod, Int.add_emod_emod])); (case hp => exact (Reps.one (show Kd.M (Kd.int .u64) _ _ _ 3 [.int .u64 3] from rfl) (Reps.one (show Kd.M (Kd.int .u64) _ _ _ 1 [.int .u64 1] from rfl) (Reps.one (show Kd.M (Kd.int .u64) _ _ _ (IntKind.u64.wrap (a0)) [.int .u64 (IntKind.u64.wrap (a0))] from rfl) (Reps.one (show Kd.M (Kd.int .u64) _ _ _ 65536 [.int .u64 65536] from rfl) (Reps.none _ _)))))); intro v340 w5 ho6 hb hg_ hnew_; clear hg_ hnew_; (first | rw [← Ny339.out] at ho6 | (simp only [Int.reduceToNat] at ho6; rw [← Ny339.out] at ho6)); have n0_ := Aside0.mk (Kd.R_below (by (with_reducible repeat (first | apply Kd.R_alloc | apply Kd.R_drewN | apply Kd.R_drew)); exact HO338.out) hb); have n1_ := Aside0.mk (Kd.R_lower ho6 (below_size (by repeat (first | (with_reducible first | exact HB.out | apply below_alloc | apply pw_below_drewN | apply below_drew1) | exact HB.out)))); have n2_ := Aside0.mk (below_step (by repeat (first | (with_reducible first | exact HB.out | apply below_alloc | apply pw_below_drewN | apply below_drew1) | exact HB.out)) hb); clear HO338; clear HB; have HO338 := n0_; have HO341 := n1_; have HB := n2_; clear n0_ n1_ n2_; clear hb ho6; obtain ⟨Ao7, co7, eo7⟩ := Kd.R_slice HO338.out; subst eo7; obtain ⟨Ao8, co8, eo8⟩ := Kd.R_slice HO341.out; subst eo8) | ((with_reducible refine gate_callee (f := 38) rfl ?_); refine goesL_ (some 7) rfl rfl Tryd.func38 (by kernel_rfl) rfl #[.slice Ao7 y336.length co7, .slice Ao8 y339.length co8] rfl (by (try simp only [List.map_toArray, List.map_cons, List.map_nil]); first | done | rfl | (simp only [List.length_drop, List.length_take]; rfl) | (simp only [List.length_drop, List.length_take]; (repeat rw [Nat.min_eq_left (by simp only [eq_iff_iff, iff_true] at *; omega)]); rfl)) ?_; (with_reducible refine (wire_Pack.calls k _ _ y336 _ _ y339 t342 _ ?side1 ?side2 ?side3 ?side4 A2.out).mono ?_); (case side1 => repeat (first | exact (Kd.R_reads' HO338.out).2.2 | (with_reducible refine Kd.C_alloc ?_ _) | (with_reducible refine Kd.C_drewN ?_ _) | (with_reducible refine Kd.C_drew ?_))); (case side2 => exact (Kd.R_reads' HO338.out).2.1); (case side3 => repeat (first | exact (Kd.R_reads' HO341.out).2.2 | (with_reducible refine Kd.C_alloc ?_ _) | (with_reducible refine Kd.C_drewN ?_ _) | (with_reducible refine Kd.C_drew ?_))); (case side4 => exact (Kd.R_reads' HO341.out).2.1); rintro e w9 ⟨v343, rfl, ho0, hb⟩; refine ⟨_, rfl, ?_⟩; have n0_ := Aside0.mk (Kd.R_below (by (with_reducible repeat (first | apply Kd.R_alloc | apply Kd.R_drewN | apply Kd.R_drew)); exact HO338.out) hb); have n1_ := Aside0.mk (Kd.R_below (by (with_reducible repeat (first | apply Kd.R_alloc | apply Kd.R_drewN | apply Kd.R_drew)); exact HO341.out) hb); have n2_ := Aside0.mk (Kd.R_lower ho0 (below_size (by repeat (first | (with_reducible first | exact HB.out | apply below_alloc | apply pw_below_drewN | apply below_drew1) | exact HB.out)))); have n3_ := Aside0.mk (below_step (by repeat (first | (with_reducible first | exact HB.out | apply below_alloc | apply pw_below_drewN | apply below_drew1) | exact HB.out)) hb); clear HO338; clear HO341; clear HB; have HO338 := n0_; have HO341 := n1_; have HO344 := n2_; have HB := n3_; clear n0_ n1_ n2_ n3_; (try clear hb); (try clear hb2); (try clear hk); (try clear hi); (try clear ho0)))
 go_ret
 exact ⟨_, by first | rfl | (simp [errW_none, errW_some] <;> rfl) | (simp [*, errW_none, errW_some] <;> rfl), by (with_reducible repeat (first | apply Kd.R_alloc | apply Kd.R_drewN | apply Kd.R_drew)); exact HO344.out, by repeat (first | (with_reducible first | exact HB.out | apply below_alloc | apply pw_below_drewN | apply below_drew1) | exact HB.out)⟩
def greet_Old.f (k : Nat) (a0_0 : Int) (a0_1 : Int) (a0_2 : Bool) (a1 : Bool) : Option (List Int) := (greet_flags.f a0_0 a0_1 a0_2).bind fun t349 => ((wire_Pack.f k (([8, 2] : List Int)) (([a0_1, t349] : List Int))).bind fun t353 => (if a1 = true then (some t353) else (if t353.length + 124 < 140737488355328 then (some (t353 ++ List.replicate 124 0)) else (none))))
def greet_Old.T1 : Bool × List (List Nat × List Nat) := (true, [([], []), ([], []), ([1], [1]), ([], []), ([3], [3]), ([2, 4], [2, 4]), ([0, 5, 4], [0, 5]), ([6, 6, 0, 1, 2, 3, 4, 5, 6], [6])])
def greet_Old.B1 : List Nat := [0, 0, 2, 0, 8, 30, 63, 127]
theorem greet_Old.tab1 : rtab .any (opsOf Tryd.f81 1) = greet_Old.T1 := by kernel_rfl
theorem greet_Old.bits1 : waitsOk greet_Old.T1.2 greet_Old.B1 = true := by kernel_rfl
set_option maxHeartbeats 8000000 in
set_option maxRecDepth 100000 in
theorem greet_Old.calls (k : Nat) (a0_0 : Int) (a0_1 : Int) (a0_2 : Bool) (a1 : Bool) (r : List Int) (w : World) (h : greet_Old.f k a0_0 a0_1 a0_2 a1 = some r) :
  Calls Tryd.prog 81 #[.agg #[.int .u32 a0_0, .int .u64 a0_1, .bool a0_2], .bool a1] w fun e w' => ∃ v0_ : Value, e = .returned (v0_) ∧ Kd.R (Kd.int .u8) 5 w' w.heap.size (fun _ => True) v0_ r ∧ Below w.heap.size w w' := by
 have hu44 := Tryd.underlying44
 have HB := Aside0.mk (Below.refl w.heap.size w)
 have H : ((greet_flags.f a0_0 a0_1 a0_2).bind fun t349 => ((wire_Pack.f k (([8, 2] : List Int)) (([a0_1, t349] : List Int))).bind fun t353 => (if a1 = true then (some t353) else (if t353.length + 124 < 140737488355328 then (some (t353 ++ List.replicate 124 0)) else (none))))) = some r := h
 clear h
 obtain ⟨y346, hy346⟩ : ∃ y_ : List Int, y_ = (([8, 2] : List Int)) := ⟨_, rfl⟩
 replace H : ((greet_flags.f a0_0 a0_1 a0_2).bind fun t349 => ((wire_Pack.f k y346 (([a0_1, t349] : List Int))).bind fun t353 => (if a1 = true then (some t353) else (if t353.length + 124 < 140737488355328 then (some (t353 ++ List.replicate 124 0)) else (none))))) = some r := by first | (rw [hy346]; with_reducible exact H) | (have H2_ := (Option.bind_some _ _).symm.trans H; rw [hy346]; with_reducible exact H2_) | (have H2_ := (Option.bind_some _ _).symm.trans H; with_reducible exact H2_) | with_reducible exact H | (rw [hy346]; exact H) | exact H
 have Ny346 := Aside0.mk hy346
 clear hy346
 replace H := Option.bind_eq_some_iff.mp H
 obtain ⟨t349, A30, H⟩ := H
 replace H : ((wire_Pack.f k y346 (([a0_1, t349] : List Int))).bind fun t353 => (if a1 = true then (some t353) else (if t353.length + 124 < 140737488355328 then (some (t353 ++ List.replicate 124 0)) else (none)))) = some r := H
 have A3 := Aside0.mk A30
 clear A30
 obtain ⟨y350, hy350⟩ : ∃ y_ : List Int, y_ = (([a0_1, t349] : List Int)) := ⟨_, rfl⟩
 replace H : ((wire_Pack.f k y346 y350).bind fun t353 => (if a1 = true then (some t353) else (if t353.length + 124 < 140737488355328 then (some (t353 ++ List.replicate 124 0)) else (none)))) = some r := by first | (rw [hy350]; with_reducible exact H) | (have H2_ := (Option.bind_some _ _).symm.trans H; rw [hy350]; with_reducible exact H2_) | (have H2_ := (Option.bind_some _ _).symm.trans H; with_reducible exact H2_) | with_reducible exact H | (rw [hy350]; exact H) | exact H
 have Ny350 := Aside0.mk hy350
 clear hy350
 replace H := Option.bind_eq_some_iff.mp H
 obtain ⟨t353, A40, H⟩ := H
 replace H : (if a1 = true then (some t353) else (if t353.length + 124 < 140737488355328 then (some (t353 ++ List.replicate 124 0)) else (none))) = some r := H
 have A4 := Aside0.mk A40
 clear A40
 by_cases c5 : a1 = true
 ·subst c5
  have H1 : (some t353) = some r := by rw [if_pos rfl] at H; exact H
  clear H
  have H := H1
  clear H1
  obtain rfl := Option.some.inj H
  go_enter Tryd.func81, Tryd.ntmps81
  try go_wp2_with (first | ((with_reducible refine gate_dst (N := 2) rfl ?_); refine box_event ?hg (N := 2) ?hd (cs := #[.int .u32 a0_0, .int .u64 a0_1, .bool a0_2]) (t := 44) ?hr ?_; (case hd => rfl); (case hg => rfl); (case hr => first | (go_simp; done) | (go_simp; rfl) | (go_simp; simp only [IntKind.wrap_u32, Int.emod_add_emod, Int.add_emod_emod])); intro gb345 hg w6 hbox hb; have n0_ := Aside0.mk (below_step (by repeat (first | (with_reducible first | exact HB.out | apply below_alloc | apply pw_below_drewN | apply below_drew1) | exact HB.out)) hb); have n1_ := Aside0.mk (hbox); have n2_ := Aside0.mk ((by rw [hg]; exact (below_size (by repeat (first | (with_reducible first | exact HB.out | apply below_alloc | apply pw_below_drewN | apply below_drew1) | exact HB.out))) : w.heap.size ≤ gb345)); have n3_ := Aside0.mk ((by rw [hg]; exact (below_size (by repeat (first | (with_reducible first | exact HB.out | apply below_alloc | apply pw_below_drewN | apply below_drew1) | exact HB.out))) : w.heap.size ≤ gb345)); clear HB; have HB := n0_; have BK345 := n1_; have GW345 := n2_; have GE345 := n3_; clear n0_ n1_ n2_ n3_; clear hb hbox hg))
  have n0_ := Aside0.mk (blk_drew BK345.out)
  have n1_ := Aside0.mk (below_drew1 HB.out)
  clear BK345
  clear HB
  have BK345 := n0_
  have HB := n1_
  clear n0_ n1_
  refine start_ (n := 8) (S := fun w' => True) (ds := []) #[false, false, false, false, false, false, false, false] (by kernel_rfl) rfl rfl trivial (fun hHeld => ?_); refine with_tabW greet_Old.tab1 greet_Old.bits1 (fun HT_ HW_ => ?_)
  generalize w6.drew = w7 at BK345 HB hHeld ⊢
  refine pure_ (i := 1) (N := some 7) (v := ?_) (a' := ?_) #[false, true, false, false, false, false, false, false] rfl rfl (any_of HT_.out (by kernel_rfl)) (fun _ _ _ h => h) (Or.inl ⟨by rfl, ?_⟩) ?_ ?_
  rotate_left
  ·intro w'
   go_simp
   with_reducible rfl
  rotate_left
  ·simp only [Act.put, List.setIfInBounds_toArray, List.set_cons_zero, List.set_cons_succ, i64_w, i32_w]
   rfl
  refine inv_at [0, 2, 3, 4, 5, 6, 7] (fun a0_ b a w' => ∃ (v347 : Value) (v351 : Value) (v354 : Value) (m7_ : Value), a = putSel a0_ b [(0, 6, v347), (2, 8, .int .u64 a0_1), (3, 9, .agg #[.int .u32 a0_0, .int .u64 a0_1, .bool a0_2]), (4, 10, .int .u64 t349), (5, 11, v351), (6, 12, v354), (7, 5, m7_)] ∧ (w'.heap[gb345]? = some (.cells #[.int .u32 a0_0, .int .u64 a0_1, .bool a0_2] 44 (0, 0))) ∧ (Below w.heap.size w w') ∧ (b 0 = true → Kd.R (Kd.int .i64) 3 w' w.heap.size (fun _ => True) v347 y346) ∧ (b 5 = true → Kd.R (Kd.int .u64) 42 w' w.heap.size (fun _ => True) v351 y350) ∧ (b 6 = true → Kd.R (Kd.int .u8) 5 w' w.heap.size (fun _ => True) v354 t353) ∧ (b 7 = true → (m7_ : Value) = v354)) HT_.out HW_.out (by kernel_rfl) (by kernel_rfl) ?_ ?_ ?_
  ·exact ⟨.bool false, .bool false, .bool false, .bool false, by simp only [putSel, Bool.false_eq_true, if_false], BK345.out, HB.out, fun h_ => absurd h_ (by decide), fun h_ => absurd h_ (by decide), fun h_ => absurd h_ (by decide), fun h_ => absurd h_ (by decide)⟩
  ·skip
   clear BK345 HB
   refine steps_cons ?_ ?_
   ·rintro b a w' ⟨v347, v351, v354, m7_, ha, Q_BK345, Q_HB, Q_HO348, Q_HO352, Q_HO355, Q_X7_⟩ hb_ hon hoff
    refine ⟨_, rfl, fun K hK => ?_⟩
    replace ha := Aside0.mk ha
    have BK345 := Aside0.mk Q_BK345
    have HB := Aside0.mk Q_HB
    refine Kd.R_lit_step (Kd.int .i64) _ 3 ?hg (N := 6) ?hd (xs := ([8, 2] : List Int)) (inner := [.int .i64 8, .int .i64 2]) (ok := fun _ => True) (okp := fun _ => True) ?hr ?hp (fun _ hk => hk) trivial (Below.refl _ _) (Nat.le_refl _) (by simp) ?_; (case hd => rfl); (case hg => rfl); (case hr => first | (go_simp; done) | (go_simp; rfl) | (go_simp; simp only [IntKind.wrap_u32, Int.emod_add_emod, Int.add_emod_emod])); (case hp => exact (Reps.one (show Kd.M (Kd.int .i64) _ _ _ 8 [.int .i64 8] from rfl) (Reps.one (show Kd.M (Kd.int .i64) _ _ _ 2 [.int .i64 2] from rfl) (Reps.none _ _))))
    intro v347 w8 ho9 hb hg_ hnew_
    clear hg_ hnew_
    (first | rw [← Ny346.out] at ho9 | (simp only [Int.reduceToNat] at ho9; rw [← Ny346.out] at ho9))
    have n0_ := Aside0.mk (Kd.R_lower ho9 (below_size (by repeat (first | (with_reducible first | exact HB.out | apply below_alloc | apply pw_below_drewN | apply below_drew1 | refine below_set ?_ GE345.out) | exact HB.out))))
    have n1_ := Aside0.mk (blk_below (g := gb345) (o := .cells #[.int .u32 a0_0, .int .u64 a0_1, .bool a0_2] 44 (0, 0)) (by (with_reducible repeat (first | refine blk_drewN ?_ _ | refine blk_drew ?_ | refine blk_alloc ?_ _)); exact BK345.out) hb)
    have n2_ := Aside0.mk (below_step (by repeat (first | (with_reducible first | exact HB.out | apply below_alloc | apply pw_below_drewN | apply below_drew1 | refine below_set ?_ GE345.out) | exact HB.out)) hb)
    have z_HO352 := fun (h0_ : b 5 = true) => (show Kd.R (Kd.int .u64) 42 w8 w.heap.size (fun _ => True) v351 y350 from by first | exact (Kd.R_below (by (with_reducible repeat (first | apply Kd.R_alloc | apply Kd.R_drewN | apply Kd.R_drew)); exact (Q_HO352 h0_)) hb) | exact Kd.R_mono (Kd.R_below (by (with_reducible repeat (first | apply Kd.R_alloc | apply Kd.R_drewN | apply Kd.R_drew)); exact (Q_HO352 h0_)) hb) (fun _ h_ => by first | trivial | exact h_ | exact h_.1))
    clear BK345
    clear HB
    have HO348 := n0_
    have BK345 := n1_
    have HB := n2_
    clear n0_ n1_ n2_
    clear hb ho9
    refine hK.out _ _ ⟨v347, v351, v354, m7_, (by rw [ha.out]; exact putSel_upk 0 hb_ rfl rfl rfl), (by (with_reducible repeat (first | refine blk_drewN ?_ _ | refine blk_drew ?_ | refine blk_alloc ?_ _)); exact BK345.out), (by repeat (first | (with_reducible first | exact HB.out | apply below_alloc | apply pw_below_drewN | apply below_drew1 | refine below_set ?_ GE345.out) | exact HB.out)), fun _ => (by (with_reducible repeat (first | apply Kd.R_alloc | apply Kd.R_drewN | apply Kd.R_drew)); exact HO348.out), z_HO352, fun h0_ => absurd ((hoff 6 (by kernel_rfl)).symm.trans h0_) (by decide), fun h0_ => absurd ((hoff 7 (by kernel_rfl)).symm.trans h0_) (by decide)⟩
   refine steps_cons ?_ ?_
   ·rintro b a w' ⟨v347, v351, v354, m7_, ha, Q_BK345, Q_HB, Q_HO348, Q_HO352, Q_HO355, Q_X7_⟩ hb_ hon hoff
    refine ⟨_, rfl, fun K hK => ?_⟩
    have e7 : a.tmps[7]? = some (.pointer (some ⟨gb345, 1, none⟩)) := by rw [ha]; exact (putSel_off rfl).trans rfl
    replace ha := Aside0.mk ha
    have BK345 := Aside0.mk Q_BK345
    have HB := Aside0.mk Q_HB
    have hc0_ : w'.cell? ⟨gb345, 0, none⟩ = some (.int .u32 a0_0) := (blk_cell BK345.out 0).trans rfl
    have hc1_ : w'.cell? ⟨gb345, 1, none⟩ = some (.int .u64 a0_1) := (blk_cell BK345.out 1).trans rfl
    have hc2_ : w'.cell? ⟨gb345, 2, none⟩ = some (.bool a0_2) := (blk_cell BK345.out 2).trans rfl
    refine value_ (w1 := w') (v := .int .u64 a0_1) (by rfl) rfl ?_ ?_
    ·go_simp
     (try simp only [i64_w])
     try rfl
    refine hK.out _ _ ⟨v347, v351, v354, m7_, (by rw [ha.out]; exact putSel_upk 1 hb_ rfl rfl rfl), Q_BK345, Q_HB, Q_HO348, fun h0_ => absurd ((hoff 5 (by kernel_rfl)).symm.trans h0_) (by decide), fun h0_ => absurd ((hoff 6 (by kernel_rfl)).symm.trans h0_) (by decide), fun h0_ => absurd ((hoff 7 (by kernel_rfl)).symm.trans h0_) (by decide)⟩
   refine steps_cons ?_ ?_
   ·rintro b a w' ⟨v347, v351, v354, m7_, ha, Q_BK345, Q_HB, Q_HO348, Q_HO352, Q_HO355, Q_X7_⟩ hb_ hon hoff
    refine ⟨_, rfl, fun K hK => ?_⟩
    have e2 : a.tmps[2]? = some (.pointer (some ⟨gb345, 0, none⟩)) := by rw [ha]; exact (putSel_off rfl).trans rfl
    replace ha := Aside0.mk ha
    have BK345 := Aside0.mk Q_BK345
    have HB := Aside0.mk Q_HB
    have hc0_ : w'.cell? ⟨gb345, 0, none⟩ = some (.int .u32 a0_0) := (blk_cell BK345.out 0).trans rfl
    have hc1_ : w'.cell? ⟨gb345, 1, none⟩ = some (.int .u64 a0_1) := (blk_cell BK345.out 1).trans rfl
    have hc2_ : w'.cell? ⟨gb345, 2, none⟩ = some (.bool a0_2) := (blk_cell BK345.out 2).trans rfl
    refine value_ (w1 := w') (v := .agg #[.int .u32 a0_0, .int .u64 a0_1, .bool a0_2]) (by rfl) rfl ?_ ?_
    ·go_simp
     (try simp only [i64_w])
     try rfl
    refine hK.out _ _ ⟨v347, v351, v354, m7_, (by rw [ha.out]; exact putSel_upk 2 hb_ rfl rfl rfl), Q_BK345, Q_HB, Q_HO348, fun h0_ => absurd ((hoff 5 (by kernel_rfl)).symm.trans h0_) (by decide), fun h0_ => absurd ((hoff 6 (by kernel_rfl)).symm.trans h0_) (by decide), fun h0_ => absurd ((hoff 7 (by kernel_rfl)).symm.trans h0_) (by decide)⟩
   refine steps_cons ?_ ?_
   ·rintro b a w' ⟨v347, v351, v354, m7_, ha, Q_BK345, Q_HB, Q_HO348, Q_HO352, Q_HO355, Q_X7_⟩ hb_ hon hoff
    refine ⟨_, rfl, fun K hK => ?_⟩
    have e9 : a.tmps[9]? = some (.agg #[.int .u32 a0_0, .int .u64 a0_1, .bool a0_2]) := by rw [ha]; exact putSel_on (e := (3, 9, .agg #[.int .u32 a0_0, .int .u64 a0_1, .bool a0_2])) 2 rfl rfl (hon 3 (by kernel_rfl)) rfl
    replace ha := Aside0.mk ha
    have BK345 := Aside0.mk Q_BK345
    have HB := Aside0.mk Q_HB
    refine goes_ Tryd.func90 (by kernel_rfl) rfl #[.agg #[.int .u32 a0_0, .int .u64 a0_1, .bool a0_2]] (by rfl) rfl rfl (by first | (simp only [List.map_toArray, List.map_cons, List.map_nil, Act.eval, Array.getD_eq_getD_getElem?, Option.getD_some, e9]; done) | (simp only [List.map_toArray, List.map_cons, List.map_nil, Act.eval, Array.getD_eq_getD_getElem?, Option.getD_some, e9]; rfl)) ?_
    with_reducible refine (greet_flags.calls a0_0 a0_1 a0_2 t349 _ A3.out).mono ?_
    rintro e w8 ⟨rfl, hb⟩
    refine ⟨_, rfl, ?_⟩
    have n0_ := Aside0.mk (blk_below (g := gb345) (o := .cells #[.int .u32 a0_0, .int .u64 a0_1, .bool a0_2] 44 (0, 0)) (by (with_reducible repeat (first | refine blk_drewN ?_ _ | refine blk_drew ?_ | refine blk_alloc ?_ _)); exact BK345.out) hb)
    have n1_ := Aside0.mk (below_step (by repeat (first | (with_reducible first | exact HB.out | apply below_alloc | apply pw_below_drewN | apply below_drew1 | refine below_set ?_ GE345.out) | exact HB.out)) hb)
    have z_HO348 := fun (h0_ : b 0 = true) => (show Kd.R (Kd.int .i64) 3 w8 w.heap.size (fun _ => True) v347 y346 from by first | exact (Kd.R_below (by (with_reducible repeat (first | apply Kd.R_alloc | apply Kd.R_drewN | apply Kd.R_drew)); exact (Q_HO348 h0_)) hb) | exact Kd.R_mono (Kd.R_below (by (with_reducible repeat (first | apply Kd.R_alloc | apply Kd.R_drewN | apply Kd.R_drew)); exact (Q_HO348 h0_)) hb) (fun _ h_ => by first | trivial | exact h_ | exact h_.1))
    clear BK345
    clear HB
    have BK345 := n0_
    have HB := n1_
    clear n0_ n1_
    (try clear hb)
    (try clear hb2)
    (try clear hk)
    (try clear hi)
    refine hK.out _ _ ⟨v347, v351, v354, m7_, (by rw [ha.out]; exact putSel_upk 3 hb_ rfl rfl rfl), (by (with_reducible repeat (first | refine blk_drewN ?_ _ | refine blk_drew ?_ | refine blk_alloc ?_ _)); exact BK345.out), (by repeat (first | (with_reducible first | exact HB.out | apply below_alloc | apply pw_below_drewN | apply below_drew1 | refine below_set ?_ GE345.out) | exact HB.out)), z_HO348, fun h0_ => absurd ((hoff 5 (by kernel_rfl)).symm.trans h0_) (by decide), fun h0_ => absurd ((hoff 6 (by kernel_rfl)).symm.trans h0_) (by decide), fun h0_ => absurd ((hoff 7 (by kernel_rfl)).symm.trans h0_) (by decide)⟩
   refine steps_cons ?_ ?_
   ·rintro b a w' ⟨v347, v351, v354, m7_, ha, Q_BK345, Q_HB, Q_HO348, Q_HO352, Q_HO355, Q_X7_⟩ hb_ hon hoff
    refine ⟨_, rfl, fun K hK => ?_⟩
    have e8 : a.tmps[8]? = some (.int .u64 a0_1) := by rw [ha]; exact putSel_on (e := (2, 8, .int .u64 a0_1)) 1 rfl rfl (hon 2 (by kernel_rfl)) rfl
    have e10 : a.tmps[10]? = some (.int .u64 t349) := by rw [ha]; exact putSel_on (e := (4, 10, .int .u64 t349)) 3 rfl rfl (hon 4 (by kernel_rfl)) rfl
    replace ha := Aside0.mk ha
    have BK345 := Aside0.mk Q_BK345
    have HB := Aside0.mk Q_HB
    refine Kd.R_lit_step (Kd.int .u64) _ 42 ?hg (N := 11) ?hd (xs := ([a0_1, t349] : List Int)) (inner := [.int .u64 a0_1, .int .u64 t349]) (ok := fun _ => True) (okp := fun _ => True) ?hr ?hp (fun _ hk => hk) trivial (Below.refl _ _) (Nat.le_refl _) (by simp) ?_; (case hd => rfl); (case hg => rfl); (case hr => first | (go_simp; done) | (go_simp; rfl) | (go_simp; simp only [IntKind.wrap_u32, Int.emod_add_emod, Int.add_emod_emod])); (case hp => exact (Reps.one (show Kd.M (Kd.int .u64) _ _ _ a0_1 [.int .u64 a0_1] from rfl) (Reps.one (show Kd.M (Kd.int .u64) _ _ _ t349 [.int .u64 t349] from rfl) (Reps.none _ _))))
    intro v351 w10 ho11 hb hg_ hnew_
    clear hg_ hnew_
    (first | rw [← Ny350.out] at ho11 | (simp only [Int.reduceToNat] at ho11; rw [← Ny350.out] at ho11))
    have n0_ := Aside0.mk (Kd.R_lower ho11 (below_size (by repeat (first | (with_reducible first | exact HB.out | apply below_alloc | apply pw_below_drewN | apply below_drew1 | refine below_set ?_ GE345.out) | exact HB.out))))
    have n1_ := Aside0.mk (blk_below (g := gb345) (o := .cells #[.int .u32 a0_0, .int .u64 a0_1, .bool a0_2] 44 (0, 0)) (by (with_reducible repeat (first | refine blk_drewN ?_ _ | refine blk_drew ?_ | refine blk_alloc ?_ _)); exact BK345.out) hb)
    have n2_ := Aside0.mk (below_step (by repeat (first | (with_reducible first | exact HB.out | apply below_alloc | apply pw_below_drewN | apply below_drew1 | refine below_set ?_ GE345.out) | exact HB.out)) hb)
    have z_HO348 := fun (h0_ : b 0 = true) => (show Kd.R (Kd.int .i64) 3 w10 w.heap.size (fun _ => True) v347 y346 from by first | exact (Kd.R_below (by (with_reducible repeat (first | apply Kd.R_alloc | apply Kd.R_drewN | apply Kd.R_drew)); exact (Q_HO348 h0_)) hb) | exact Kd.R_mono (Kd.R_below (by (with_reducible repeat (first | apply Kd.R_alloc | apply Kd.R_drewN | apply Kd.R_drew)); exact (Q_HO348 h0_)) hb) (fun _ h_ => by first | trivial | exact h_ | exact h_.1))
    clear BK345
    clear HB
    have HO352 := n0_
    have BK345 := n1_
    have HB := n2_
    clear n0_ n1_ n2_
    clear hb ho11
    refine hK.out _ _ ⟨v347, v351, v354, m7_, (by rw [ha.out]; exact putSel_upk 4 hb_ rfl rfl rfl), (by (with_reducible repeat (first | refine blk_drewN ?_ _ | refine blk_drew ?_ | refine blk_alloc ?_ _)); exact BK345.out), (by repeat (first | (with_reducible first | exact HB.out | apply below_alloc | apply pw_below_drewN | apply below_drew1 | refine below_set ?_ GE345.out) | exact HB.out)), z_HO348, fun _ => (by (with_reducible repeat (first | apply Kd.R_alloc | apply Kd.R_drewN | apply Kd.R_drew)); exact HO352.out), fun h0_ => absurd ((hoff 6 (by kernel_rfl)).symm.trans h0_) (by decide), fun h0_ => absurd ((hoff 7 (by kernel_rfl)).symm.trans h0_) (by decide)⟩
   refine steps_cons ?_ ?_
   ·rintro b a w' ⟨v347, v351, v354, m7_, ha, Q_BK345, Q_HB, Q_HO348, Q_HO352, Q_HO355, Q_X7_⟩ hb_ hon hoff
    refine ⟨_, rfl, fun K hK => ?_⟩
    have e6 : a.tmps[6]? = some (v347) := by rw [ha]; exact putSel_on (e := (0, 6, v347)) 0 rfl rfl (hon 0 (by kernel_rfl)) rfl
    have e11 : a.tmps[11]? = some (v351) := by rw [ha]; exact putSel_on (e := (5, 11, v351)) 4 rfl rfl (hon 5 (by kernel_rfl)) rfl
    replace ha := Aside0.mk ha
    have BK345 := Aside0.mk Q_BK345
    have HB := Aside0.mk Q_HB
    have HO348 := Aside0.mk (Q_HO348 (hon 0 (by kernel_rfl)))
    have HO352 := Aside0.mk (Q_HO352 (hon 5 (by kernel_rfl)))
    obtain ⟨Ao14, co14, eo14⟩ := Kd.R_slice HO348.out
    (first | subst eo14 | (injection eo14 with f1_ f2_ f3_; have f4_ := f1_.symm; have f5_ := f3_.symm; clear f1_ f2_ f3_; subst f4_; subst f5_))
    obtain ⟨Ao15, co15, eo15⟩ := Kd.R_slice HO352.out
    (first | subst eo15 | (injection eo15 with f1_ f2_ f3_; have f4_ := f1_.symm; have f5_ := f3_.symm; clear f1_ f2_ f3_; subst f4_; subst f5_))
    refine goes_ Tryd.func38 (by kernel_rfl) rfl #[.slice Ao14 y346.length co14, .slice Ao15 y350.length co15] (by rfl) rfl rfl (by first | (simp only [List.map_toArray, List.map_cons, List.map_nil, Act.eval, Array.getD_eq_getD_getElem?, Option.getD_some, e6, e11]; done) | (simp only [List.map_toArray, List.map_cons, List.map_nil, Act.eval, Array.getD_eq_getD_getElem?, Option.getD_some, e6, e11]; rfl)) ?_
    with_reducible refine (wire_Pack.calls k _ _ y346 _ _ y350 t353 _ ?side1 ?side2 ?side3 ?side4 A4.out).mono ?_
    (case side1 => repeat (first | exact (Kd.R_reads' HO348.out).2.2 | (with_reducible refine Kd.C_alloc ?_ _) | (with_reducible refine Kd.C_drewN ?_ _) | (with_reducible refine Kd.C_drew ?_)))
    (case side2 => exact (Kd.R_reads' HO348.out).2.1)
    (case side3 => repeat (first | exact (Kd.R_reads' HO352.out).2.2 | (with_reducible refine Kd.C_alloc ?_ _) | (with_reducible refine Kd.C_drewN ?_ _) | (with_reducible refine Kd.C_drew ?_)))
    (case side4 => exact (Kd.R_reads' HO352.out).2.1)
    rintro e w16 ⟨v354, rfl, ho0, hb⟩
    refine ⟨_, rfl, ?_⟩
    have n0_ := Aside0.mk (Kd.R_below (by (with_reducible repeat (first | apply Kd.R_alloc | apply Kd.R_drewN | apply Kd.R_drew)); exact HO348.out) hb)
    have n1_ := Aside0.mk (Kd.R_below (by (with_reducible repeat (first | apply Kd.R_alloc | apply Kd.R_drewN | apply Kd.R_drew)); exact HO352.out) hb)
    have n2_ := Aside0.mk (Kd.R_lower ho0 (below_size (by repeat (first | (with_reducible first | exact HB.out | apply below_alloc | apply pw_below_drewN | apply below_drew1 | refine below_set ?_ GE345.out) | exact HB.out))))
    have n3_ := Aside0.mk (blk_below (g := gb345) (o := .cells #[.int .u32 a0_0, .int .u64 a0_1, .bool a0_2] 44 (0, 0)) (by (with_reducible repeat (first | refine blk_drewN ?_ _ | refine blk_drew ?_ | refine blk_alloc ?_ _)); exact BK345.out) hb)
    have n4_ := Aside0.mk (below_step (by repeat (first | (with_reducible first | exact HB.out | apply below_alloc | apply pw_below_drewN | apply below_drew1 | refine below_set ?_ GE345.out) | exact HB.out)) hb)
    clear HO348
    clear HO352
    clear BK345
    clear HB
    have HO348 := n0_
    have HO352 := n1_
    have HO355 := n2_
    have BK345 := n3_
    have HB := n4_
    clear n0_ n1_ n2_ n3_ n4_
    (try clear hb)
    (try clear hb2)
    (try clear hk)
    (try clear hi)
    (try clear ho0)
    refine hK.out _ _ ⟨.slice Ao14 y346.length co14, .slice Ao15 y350.length co15, v354, m7_, (by rw [ha.out]; exact putSel_upk 5 hb_ rfl rfl rfl), (by (with_reducible repeat (first | refine blk_drewN ?_ _ | refine blk_drew ?_ | refine blk_alloc ?_ _)); exact BK345.out), (by repeat (first | (with_reducible first | exact HB.out | apply below_alloc | apply pw_below_drewN | apply below_drew1 | refine below_set ?_ GE345.out) | exact HB.out)), fun _ => (by (with_reducible repeat (first | apply Kd.R_alloc | apply Kd.R_drewN | apply Kd.R_drew)); exact HO348.out), fun _ => (by (with_reducible repeat (first | apply Kd.R_alloc | apply Kd.R_drewN | apply Kd.R_drew)); exact HO352.out), fun _ => (by (with_reducible repeat (first | apply Kd.R_alloc | apply Kd.R_drewN | apply Kd.R_drew)); exact HO355.out), fun h0_ => absurd ((hoff 7 (by kernel_rfl)).symm.trans h0_) (by decide)⟩
   refine steps_cons ?_ ?_
   ·rintro b a w' ⟨v347, v351, v354, m7_, ha, Q_BK345, Q_HB, Q_HO348, Q_HO352, Q_HO355, Q_X7_⟩ hb_ hon hoff
    refine ⟨_, rfl, fun K hK => ?_⟩
    have e12 : a.tmps[12]? = some (v354) := by rw [ha]; exact putSel_on (e := (6, 12, v354)) 5 rfl rfl (hon 6 (by kernel_rfl)) rfl
    replace ha := Aside0.mk ha
    have BK345 := Aside0.mk Q_BK345
    have HB := Aside0.mk Q_HB
    have HO348 := Aside0.mk (Q_HO348 (hon 0 (by kernel_rfl)))
    have HO352 := Aside0.mk (Q_HO352 (hon 5 (by kernel_rfl)))
    have HO355 := Aside0.mk (Q_HO355 (hon 6 (by kernel_rfl)))
    refine value_ (w1 := w') (v := v354) (by rfl) rfl ?_ ?_
    ·go_simp
     (try simp only [i64_w])
     try rfl
    refine hK.out _ _ ⟨v347, v351, v354, (v354), (by rw [ha.out]; exact putSel_upk 6 hb_ rfl rfl rfl), Q_BK345, Q_HB, Q_HO348, Q_HO352, Q_HO355, fun _ => rfl⟩
   exact steps_nil
  rintro b a w16 hall ⟨v347, v351, v354, m7_, ha, Q_BK345, Q_HB, Q_HO348, Q_HO352, Q_HO355, Q_X7_⟩
  clear BK345 HB
  have hb0_ := hall 0 (by kernel_rfl)
  have hb2_ := hall 2 (by kernel_rfl)
  have hb3_ := hall 3 (by kernel_rfl)
  have hb4_ := hall 4 (by kernel_rfl)
  have hb5_ := hall 5 (by kernel_rfl)
  have hb6_ := hall 6 (by kernel_rfl)
  have hb7_ := hall 7 (by kernel_rfl)
  subst ha
  obtain rfl := Q_X7_ hb7_
  simp only [putSel, hb0_, hb2_, hb3_, hb4_, hb5_, hb6_, hb7_, if_true, Act.put, List.setIfInBounds_toArray, List.set_cons_zero, List.set_cons_succ]
  have BK345 := Aside0.mk Q_BK345
  clear Q_BK345
  have HB := Aside0.mk Q_HB
  clear Q_HB
  have HO348 := Aside0.mk (Q_HO348 hb0_)
  clear Q_HO348
  have HO352 := Aside0.mk (Q_HO352 hb5_)
  clear Q_HO352
  have HO355 := Aside0.mk (Q_HO355 hb6_)
  clear Q_HO355
  clear hall hb0_ hb2_ hb3_ hb4_ hb5_ hb6_ hb7_
  try go_wp2
  go_ret
  exact ⟨_, by first | rfl | (simp [errW_none, errW_some] <;> rfl) | (simp [*, errW_none, errW_some] <;> rfl), by (with_reducible repeat (first | apply Kd.R_alloc | apply Kd.R_drewN | apply Kd.R_drew)); exact HO355.out, by repeat (first | (with_reducible first | exact HB.out | apply below_alloc | apply pw_below_drewN | apply below_drew1 | refine below_set ?_ GE345.out) | exact HB.out)⟩
 ·replace c5 := Bool.eq_false_iff.mpr c5
  subst c5
  have H1 : (if t353.length + 124 < 140737488355328 then (some (t353 ++ List.replicate 124 0)) else (none)) = some r := by rw [if_neg (show ¬ (false = true) by decide)] at H; exact H
  clear H
  have H := H1
  clear H1
  by_cases c17 : t353.length + 124 < 140737488355328
  ·rw [if_pos c17] at H
   have LMc17 := Aside0.mk c17
   clear c17
   obtain ⟨y356, hy356⟩ : ∃ y_ : List Int, y_ = (t353 ++ List.replicate 124 0) := ⟨_, rfl⟩
   replace H : (some y356) = some r := by first | (rw [hy356]; with_reducible exact H) | (have H2_ := (Option.bind_some _ _).symm.trans H; rw [hy356]; with_reducible exact H2_) | (have H2_ := (Option.bind_some _ _).symm.trans H; with_reducible exact H2_) | with_reducible exact H | (rw [hy356]; exact H) | exact H
   have Ny356 := Aside0.mk hy356
   clear hy356
   obtain rfl := Option.some.inj H
   go_enter Tryd.func81, Tryd.ntmps81
   try go_wp2_with (first | ((with_reducible refine gate_dst (N := 2) rfl ?_); refine box_event ?hg (N := 2) ?hd (cs := #[.int .u32 a0_0, .int .u64 a0_1, .bool a0_2]) (t := 44) ?hr ?_; (case hd => rfl); (case hg => rfl); (case hr => first | (go_simp; done) | (go_simp; rfl) | (go_simp; simp only [IntKind.wrap_u32, Int.emod_add_emod, Int.add_emod_emod])); intro gb345 hg w18 hbox hb; have n0_ := Aside0.mk (below_step (by repeat (first | (with_reducible first | exact HB.out | apply below_alloc | apply pw_below_drewN | apply below_drew1) | exact HB.out)) hb); have n1_ := Aside0.mk (hbox); have n2_ := Aside0.mk ((by rw [hg]; exact (below_size (by repeat (first | (with_reducible first | exact HB.out | apply below_alloc | apply pw_below_drewN | apply below_drew1) | exact HB.out))) : w.heap.size ≤ gb345)); have n3_ := Aside0.mk ((by rw [hg]; exact (below_size (by repeat (first | (with_reducible first | exact HB.out | apply below_alloc | apply pw_below_drewN | apply below_drew1) | exact HB.out))) : w.heap.size ≤ gb345)); clear HB; have HB := n0_; have BK345 := n1_; have GW345 := n2_; have GE345 := n3_; clear n0_ n1_ n2_ n3_; clear hb hbox hg))
   have n0_ := Aside0.mk (blk_drew BK345.out)
   have n1_ := Aside0.mk (below_drew1 HB.out)
   clear BK345
   clear HB
   have BK345 := n0_
   have HB := n1_
   clear n0_ n1_
   refine start_ (n := 8) (S := fun w' => True) (ds := []) #[false, false, false, false, false, false, false, false] (by kernel_rfl) rfl rfl trivial (fun hHeld => ?_); refine with_tabW greet_Old.tab1 greet_Old.bits1 (fun HT_ HW_ => ?_)
   generalize w18.drew = w19 at BK345 HB hHeld ⊢
   refine pure_ (i := 1) (N := some 7) (v := ?_) (a' := ?_) #[false, true, false, false, false, false, false, false] rfl rfl (any_of HT_.out (by kernel_rfl)) (fun _ _ _ h => h) (Or.inl ⟨by rfl, ?_⟩) ?_ ?_
   rotate_left
   ·intro w'
    go_simp
    with_reducible rfl
   rotate_left
   ·simp only [Act.put, List.setIfInBounds_toArray, List.set_cons_zero, List.set_cons_succ, i64_w, i32_w]
    rfl
   refine inv_at [0, 2, 3, 4, 5, 6, 7] (fun a0_ b a w' => ∃ (v347 : Value) (v351 : Value) (v354 : Value) (m7_ : Value), a = putSel a0_ b [(0, 6, v347), (2, 8, .int .u64 a0_1), (3, 9, .agg #[.int .u32 a0_0, .int .u64 a0_1, .bool a0_2]), (4, 10, .int .u64 t349), (5, 11, v351), (6, 12, v354), (7, 5, m7_)] ∧ (w'.heap[gb345]? = some (.cells #[.int .u32 a0_0, .int .u64 a0_1, .bool a0_2] 44 (0, 0))) ∧ (Below w.heap.size w w') ∧ (b 0 = true → Kd.R (Kd.int .i64) 3 w' w.heap.size (fun _ => True) v347 y346) ∧ (b 5 = true → Kd.R (Kd.int .u64) 42 w' w.heap.size (fun _ => True) v351 y350) ∧ (b 6 = true → Kd.R (Kd.int .u8) 5 w' w.heap.size (fun _ => True) v354 t353) ∧ (b 7 = true → (m7_ : Value) = v354)) HT_.out HW_.out (by kernel_rfl) (by kernel_rfl) ?_ ?_ ?_
   ·exact ⟨.bool false, .bool false, .bool false, .bool false, by simp only [putSel, Bool.false_eq_true, if_false], BK345.out, HB.out, fun h_ => absurd h_ (by decide), fun h_ => absurd h_ (by decide), fun h_ => absurd h_ (by decide), fun h_ => absurd h_ (by decide)⟩
   ·skip
    clear BK345 HB
    refine steps_cons ?_ ?_
    ·rintro b a w' ⟨v347, v351, v354, m7_, ha, Q_BK345, Q_HB, Q_HO348, Q_HO352, Q_HO355, Q_X7_⟩ hb_ hon hoff
     refine ⟨_, rfl, fun K hK => ?_⟩
     replace ha := Aside0.mk ha
     have BK345 := Aside0.mk Q_BK345
     have HB := Aside0.mk Q_HB
     refine Kd.R_lit_step (Kd.int .i64) _ 3 ?hg (N := 6) ?hd (xs := ([8, 2] : List Int)) (inner := [.int .i64 8, .int .i64 2]) (ok := fun _ => True) (okp := fun _ => True) ?hr ?hp (fun _ hk => hk) trivial (Below.refl _ _) (Nat.le_refl _) (by simp) ?_; (case hd => rfl); (case hg => rfl); (case hr => first | (go_simp; done) | (go_simp; rfl) | (go_simp; simp only [IntKind.wrap_u32, Int.emod_add_emod, Int.add_emod_emod])); (case hp => exact (Reps.one (show Kd.M (Kd.int .i64) _ _ _ 8 [.int .i64 8] from rfl) (Reps.one (show Kd.M (Kd.int .i64) _ _ _ 2 [.int .i64 2] from rfl) (Reps.none _ _))))
     intro v347 w20 ho21 hb hg_ hnew_
     clear hg_ hnew_
     (first | rw [← Ny346.out] at ho21 | (simp only [Int.reduceToNat] at ho21; rw [← Ny346.out] at ho21))
     have n0_ := Aside0.mk (Kd.R_lower ho21 (below_size (by repeat (first | (with_reducible first | exact HB.out | apply below_alloc | apply pw_below_drewN | apply below_drew1 | refine below_set ?_ GE345.out) | exact HB.out))))
     have n1_ := Aside0.mk (blk_below (g := gb345) (o := .cells #[.int .u32 a0_0, .int .u64 a0_1, .bool a0_2] 44 (0, 0)) (by (with_reducible repeat (first | refine blk_drewN ?_ _ | refine blk_drew ?_ | refine blk_alloc ?_ _)); exact BK345.out) hb)
     have n2_ := Aside0.mk (below_step (by repeat (first | (with_reducible first | exact HB.out | apply below_alloc | apply pw_below_drewN | apply below_drew1 | refine below_set ?_ GE345.out) | exact HB.out)) hb)
     have z_HO352 := fun (h0_ : b 5 = true) => (show Kd.R (Kd.int .u64) 42 w20 w.heap.size (fun _ => True) v351 y350 from by first | exact (Kd.R_below (by (with_reducible repeat (first | apply Kd.R_alloc | apply Kd.R_drewN | apply Kd.R_drew)); exact (Q_HO352 h0_)) hb) | exact Kd.R_mono (Kd.R_below (by (with_reducible repeat (first | apply Kd.R_alloc | apply Kd.R_drewN | apply Kd.R_drew)); exact (Q_HO352 h0_)) hb) (fun _ h_ => by first | trivial | exact h_ | exact h_.1))
     clear BK345
     clear HB
     have HO348 := n0_
     have BK345 := n1_
     have HB := n2_
     clear n0_ n1_ n2_
     clear hb ho21
     refine hK.out _ _ ⟨v347, v351, v354, m7_, (by rw [ha.out]; exact putSel_upk 0 hb_ rfl rfl rfl), (by (with_reducible repeat (first | refine blk_drewN ?_ _ | refine blk_drew ?_ | refine blk_alloc ?_ _)); exact BK345.out), (by repeat (first | (with_reducible first | exact HB.out | apply below_alloc | apply pw_below_drewN | apply below_drew1 | refine below_set ?_ GE345.out) | exact HB.out)), fun _ => (by (with_reducible repeat (first | apply Kd.R_alloc | apply Kd.R_drewN | apply Kd.R_drew)); exact HO348.out), z_HO352, fun h0_ => absurd ((hoff 6 (by kernel_rfl)).symm.trans h0_) (by decide), fun h0_ => absurd ((hoff 7 (by kernel_rfl)).symm.trans h0_) (by decide)⟩
    refine steps_cons ?_ ?_
    ·rintro b a w' ⟨v347, v351, v354, m7_, ha, Q_BK345, Q_HB, Q_HO348, Q_HO352, Q_HO355, Q_X7_⟩ hb_ hon hoff
     refine ⟨_, rfl, fun K hK => ?_⟩
     have e7 : a.tmps[7]? = some (.pointer (some ⟨gb345, 1, none⟩)) := by rw [ha]; exact (putSel_off rfl).trans rfl
     replace ha := Aside0.mk ha
     have BK345 := Aside0.mk Q_BK345
     have HB := Aside0.mk Q_HB
     have hc0_ : w'.cell? ⟨gb345, 0, none⟩ = some (.int .u32 a0_0) := (blk_cell BK345.out 0).trans rfl
     have hc1_ : w'.cell? ⟨gb345, 1, none⟩ = some (.int .u64 a0_1) := (blk_cell BK345.out 1).trans rfl
     have hc2_ : w'.cell? ⟨gb345, 2, none⟩ = some (.bool a0_2) := (blk_cell BK345.out 2).trans rfl
     refine value_ (w1 := w') (v := .int .u64 a0_1) (by rfl) rfl ?_ ?_
     ·go_simp
      (try simp only [i64_w])
      try rfl
     refine hK.out _ _ ⟨v347, v351, v354, m7_, (by rw [ha.out]; exact putSel_upk 1 hb_ rfl rfl rfl), Q_BK345, Q_HB, Q_HO348, fun h0_ => absurd ((hoff 5 (by kernel_rfl)).symm.trans h0_) (by decide), fun h0_ => absurd ((hoff 6 (by kernel_rfl)).symm.trans h0_) (by decide), fun h0_ => absurd ((hoff 7 (by kernel_rfl)).symm.trans h0_) (by decide)⟩
    refine steps_cons ?_ ?_
    ·rintro b a w' ⟨v347, v351, v354, m7_, ha, Q_BK345, Q_HB, Q_HO348, Q_HO352, Q_HO355, Q_X7_⟩ hb_ hon hoff
     refine ⟨_, rfl, fun K hK => ?_⟩
     have e2 : a.tmps[2]? = some (.pointer (some ⟨gb345, 0, none⟩)) := by rw [ha]; exact (putSel_off rfl).trans rfl
     replace ha := Aside0.mk ha
     have BK345 := Aside0.mk Q_BK345
     have HB := Aside0.mk Q_HB
     have hc0_ : w'.cell? ⟨gb345, 0, none⟩ = some (.int .u32 a0_0) := (blk_cell BK345.out 0).trans rfl
     have hc1_ : w'.cell? ⟨gb345, 1, none⟩ = some (.int .u64 a0_1) := (blk_cell BK345.out 1).trans rfl
     have hc2_ : w'.cell? ⟨gb345, 2, none⟩ = some (.bool a0_2) := (blk_cell BK345.out 2).trans rfl
     refine value_ (w1 := w') (v := .agg #[.int .u32 a0_0, .int .u64 a0_1, .bool a0_2]) (by rfl) rfl ?_ ?_
     ·go_simp
      (try simp only [i64_w])
      try rfl
     refine hK.out _ _ ⟨v347, v351, v354, m7_, (by rw [ha.out]; exact putSel_upk 2 hb_ rfl rfl rfl), Q_BK345, Q_HB, Q_HO348, fun h0_ => absurd ((hoff 5 (by kernel_rfl)).symm.trans h0_) (by decide), fun h0_ => absurd ((hoff 6 (by kernel_rfl)).symm.trans h0_) (by decide), fun h0_ => absurd ((hoff 7 (by kernel_rfl)).symm.trans h0_) (by decide)⟩
    refine steps_cons ?_ ?_
    ·rintro b a w' ⟨v347, v351, v354, m7_, ha, Q_BK345, Q_HB, Q_HO348, Q_HO352, Q_HO355, Q_X7_⟩ hb_ hon hoff
     refine ⟨_, rfl, fun K hK => ?_⟩
     have e9 : a.tmps[9]? = some (.agg #[.int .u32 a0_0, .int .u64 a0_1, .bool a0_2]) := by rw [ha]; exact putSel_on (e := (3, 9, .agg #[.int .u32 a0_0, .int .u64 a0_1, .bool a0_2])) 2 rfl rfl (hon 3 (by kernel_rfl)) rfl
     replace ha := Aside0.mk ha
     have BK345 := Aside0.mk Q_BK345
     have HB := Aside0.mk Q_HB
     refine goes_ Tryd.func90 (by kernel_rfl) rfl #[.agg #[.int .u32 a0_0, .int .u64 a0_1, .bool a0_2]] (by rfl) rfl rfl (by first | (simp only [List.map_toArray, List.map_cons, List.map_nil, Act.eval, Array.getD_eq_getD_getElem?, Option.getD_some, e9]; done) | (simp only [List.map_toArray, List.map_cons, List.map_nil, Act.eval, Array.getD_eq_getD_getElem?, Option.getD_some, e9]; rfl)) ?_
     with_reducible refine (greet_flags.calls a0_0 a0_1 a0_2 t349 _ A3.out).mono ?_
     rintro e w20 ⟨rfl, hb⟩
     refine ⟨_, rfl, ?_⟩
     have n0_ := Aside0.mk (blk_below (g := gb345) (o := .cells #[.int .u32 a0_0, .int .u64 a0_1, .bool a0_2] 44 (0, 0)) (by (with_reducible repeat (first | refine blk_drewN ?_ _ | refine blk_drew ?_ | refine blk_alloc ?_ _)); exact BK345.out) hb)
     have n1_ := Aside0.mk (below_step (by repeat (first | (with_reducible first | exact HB.out | apply below_alloc | apply pw_below_drewN | apply below_drew1 | refine below_set ?_ GE345.out) | exact HB.out)) hb)
     have z_HO348 := fun (h0_ : b 0 = true) => (show Kd.R (Kd.int .i64) 3 w20 w.heap.size (fun _ => True) v347 y346 from by first | exact (Kd.R_below (by (with_reducible repeat (first | apply Kd.R_alloc | apply Kd.R_drewN | apply Kd.R_drew)); exact (Q_HO348 h0_)) hb) | exact Kd.R_mono (Kd.R_below (by (with_reducible repeat (first | apply Kd.R_alloc | apply Kd.R_drewN | apply Kd.R_drew)); exact (Q_HO348 h0_)) hb) (fun _ h_ => by first | trivial | exact h_ | exact h_.1))
     clear BK345
     clear HB
     have BK345 := n0_
     have HB := n1_
     clear n0_ n1_
     (try clear hb)
     (try clear hb2)
     (try clear hk)
     (try clear hi)
     refine hK.out _ _ ⟨v347, v351, v354, m7_, (by rw [ha.out]; exact putSel_upk 3 hb_ rfl rfl rfl), (by (with_reducible repeat (first | refine blk_drewN ?_ _ | refine blk_drew ?_ | refine blk_alloc ?_ _)); exact BK345.out), (by repeat (first | (with_reducible first | exact HB.out | apply below_alloc | apply pw_below_drewN | apply below_drew1 | refine below_set ?_ GE345.out) | exact HB.out)), z_HO348, fun h0_ => absurd ((hoff 5 (by kernel_rfl)).symm.trans h0_) (by decide), fun h0_ => absurd ((hoff 6 (by kernel_rfl)).symm.trans h0_) (by decide), fun h0_ => absurd ((hoff 7 (by kernel_rfl)).symm.trans h0_) (by decide)⟩
    refine steps_cons ?_ ?_
    ·rintro b a w' ⟨v347, v351, v354, m7_, ha, Q_BK345, Q_HB, Q_HO348, Q_HO352, Q_HO355, Q_X7_⟩ hb_ hon hoff
     refine ⟨_, rfl, fun K hK => ?_⟩
     have e8 : a.tmps[8]? = some (.int .u64 a0_1) := by rw [ha]; exact putSel_on (e := (2, 8, .int .u64 a0_1)) 1 rfl rfl (hon 2 (by kernel_rfl)) rfl
     have e10 : a.tmps[10]? = some (.int .u64 t349) := by rw [ha]; exact putSel_on (e := (4, 10, .int .u64 t349)) 3 rfl rfl (hon 4 (by kernel_rfl)) rfl
     replace ha := Aside0.mk ha
     have BK345 := Aside0.mk Q_BK345
     have HB := Aside0.mk Q_HB
     refine Kd.R_lit_step (Kd.int .u64) _ 42 ?hg (N := 11) ?hd (xs := ([a0_1, t349] : List Int)) (inner := [.int .u64 a0_1, .int .u64 t349]) (ok := fun _ => True) (okp := fun _ => True) ?hr ?hp (fun _ hk => hk) trivial (Below.refl _ _) (Nat.le_refl _) (by simp) ?_; (case hd => rfl); (case hg => rfl); (case hr => first | (go_simp; done) | (go_simp; rfl) | (go_simp; simp only [IntKind.wrap_u32, Int.emod_add_emod, Int.add_emod_emod])); (case hp => exact (Reps.one (show Kd.M (Kd.int .u64) _ _ _ a0_1 [.int .u64 a0_1] from rfl) (Reps.one (show Kd.M (Kd.int .u64) _ _ _ t349 [.int .u64 t349] from rfl) (Reps.none _ _))))
     intro v351 w22 ho23 hb hg_ hnew_
     clear hg_ hnew_
     (first | rw [← Ny350.out] at ho23 | (simp only [Int.reduceToNat] at ho23; rw [← Ny350.out] at ho23))
     have n0_ := Aside0.mk (Kd.R_lower ho23 (below_size (by repeat (first | (with_reducible first | exact HB.out | apply below_alloc | apply pw_below_drewN | apply below_drew1 | refine below_set ?_ GE345.out) | exact HB.out))))
     have n1_ := Aside0.mk (blk_below (g := gb345) (o := .cells #[.int .u32 a0_0, .int .u64 a0_1, .bool a0_2] 44 (0, 0)) (by (with_reducible repeat (first | refine blk_drewN ?_ _ | refine blk_drew ?_ | refine blk_alloc ?_ _)); exact BK345.out) hb)
     have n2_ := Aside0.mk (below_step (by repeat (first | (with_reducible first | exact HB.out | apply below_alloc | apply pw_below_drewN | apply below_drew1 | refine below_set ?_ GE345.out) | exact HB.out)) hb)
     have z_HO348 := fun (h0_ : b 0 = true) => (show Kd.R (Kd.int .i64) 3 w22 w.heap.size (fun _ => True) v347 y346 from by first | exact (Kd.R_below (by (with_reducible repeat (first | apply Kd.R_alloc | apply Kd.R_drewN | apply Kd.R_drew)); exact (Q_HO348 h0_)) hb) | exact Kd.R_mono (Kd.R_below (by (with_reducible repeat (first | apply Kd.R_alloc | apply Kd.R_drewN | apply Kd.R_drew)); exact (Q_HO348 h0_)) hb) (fun _ h_ => by first | trivial | exact h_ | exact h_.1))
     clear BK345
     clear HB
     have HO352 := n0_
     have BK345 := n1_
     have HB := n2_
     clear n0_ n1_ n2_
     clear hb ho23
     refine hK.out _ _ ⟨v347, v351, v354, m7_, (by rw [ha.out]; exact putSel_upk 4 hb_ rfl rfl rfl), (by (with_reducible repeat (first | refine blk_drewN ?_ _ | refine blk_drew ?_ | refine blk_alloc ?_ _)); exact BK345.out), (by repeat (first | (with_reducible first | exact HB.out | apply below_alloc | apply pw_below_drewN | apply below_drew1 | refine below_set ?_ GE345.out) | exact HB.out)), z_HO348, fun _ => (by (with_reducible repeat (first | apply Kd.R_alloc | apply Kd.R_drewN | apply Kd.R_drew)); exact HO352.out), fun h0_ => absurd ((hoff 6 (by kernel_rfl)).symm.trans h0_) (by decide), fun h0_ => absurd ((hoff 7 (by kernel_rfl)).symm.trans h0_) (by decide)⟩
    refine steps_cons ?_ ?_
    ·rintro b a w' ⟨v347, v351, v354, m7_, ha, Q_BK345, Q_HB, Q_HO348, Q_HO352, Q_HO355, Q_X7_⟩ hb_ hon hoff
     refine ⟨_, rfl, fun K hK => ?_⟩
     have e6 : a.tmps[6]? = some (v347) := by rw [ha]; exact putSel_on (e := (0, 6, v347)) 0 rfl rfl (hon 0 (by kernel_rfl)) rfl
     have e11 : a.tmps[11]? = some (v351) := by rw [ha]; exact putSel_on (e := (5, 11, v351)) 4 rfl rfl (hon 5 (by kernel_rfl)) rfl
     replace ha := Aside0.mk ha
     have BK345 := Aside0.mk Q_BK345
     have HB := Aside0.mk Q_HB
     have HO348 := Aside0.mk (Q_HO348 (hon 0 (by kernel_rfl)))
     have HO352 := Aside0.mk (Q_HO352 (hon 5 (by kernel_rfl)))
     obtain ⟨Ao26, co26, eo26⟩ := Kd.R_slice HO348.out
     (first | subst eo26 | (injection eo26 with f1_ f2_ f3_; have f4_ := f1_.symm; have f5_ := f3_.symm; clear f1_ f2_ f3_; subst f4_; subst f5_))
     obtain ⟨Ao27, co27, eo27⟩ := Kd.R_slice HO352.out
     (first | subst eo27 | (injection eo27 with f1_ f2_ f3_; have f4_ := f1_.symm; have f5_ := f3_.symm; clear f1_ f2_ f3_; subst f4_; subst f5_))
     refine goes_ Tryd.func38 (by kernel_rfl) rfl #[.slice Ao26 y346.length co26, .slice Ao27 y350.length co27] (by rfl) rfl rfl (by first | (simp only [List.map_toArray, List.map_cons, List.map_nil, Act.eval, Array.getD_eq_getD_getElem?, Option.getD_some, e6, e11]; done) | (simp only [List.map_toArray, List.map_cons, List.map_nil, Act.eval, Array.getD_eq_getD_getElem?, Option.getD_some, e6, e11]; rfl)) ?_
     with_reducible refine (wire_Pack.calls k _ _ y346 _ _ y350 t353 _ ?side1 ?side2 ?side3 ?side4 A4.out).mono ?_
     (case side1 => repeat (first | exact (Kd.R_reads' HO348.out).2.2 | (with_reducible refine Kd.C_alloc ?_ _) | (with_reducible refine Kd.C_drewN ?_ _) | (with_reducible refine Kd.C_drew ?_)))
     (case side2 => exact (Kd.R_reads' HO348.out).2.1)
     (case side3 => repeat (first | exact (Kd.R_reads' HO352.out).2.2 | (with_reducible refine Kd.C_alloc ?_ _) | (with_reducible refine Kd.C_drewN ?_ _) | (with_reducible refine Kd.C_drew ?_)))
     (case side4 => exact (Kd.R_reads' HO352.out).2.1)
     rintro e w28 ⟨v354, rfl, ho0, hb⟩
     refine ⟨_, rfl, ?_⟩
     have n0_ := Aside0.mk (Kd.R_below (by (with_reducible repeat (first | apply Kd.R_alloc | apply Kd.R_drewN | apply Kd.R_drew)); exact HO348.out) hb)
     have n1_ := Aside0.mk (Kd.R_below (by (with_reducible repeat (first | apply Kd.R_alloc | apply Kd.R_drewN | apply Kd.R_drew)); exact HO352.out) hb)
     have n2_ := Aside0.mk (Kd.R_lower ho0 (below_size (by repeat (first | (with_reducible first | exact HB.out | apply below_alloc | apply pw_below_drewN | apply below_drew1 | refine below_set ?_ GE345.out) | exact HB.out))))
     have n3_ := Aside0.mk (blk_below (g := gb345) (o := .cells #[.int .u32 a0_0, .int .u64 a0_1, .bool a0_2] 44 (0, 0)) (by (with_reducible repeat (first | refine blk_drewN ?_ _ | refine blk_drew ?_ | refine blk_alloc ?_ _)); exact BK345.out) hb)
     have n4_ := Aside0.mk (below_step (by repeat (first | (with_reducible first | exact HB.out | apply below_alloc | apply pw_below_drewN | apply below_drew1 | refine below_set ?_ GE345.out) | exact HB.out)) hb)
     clear HO348
     clear HO352
     clear BK345
     clear HB
     have HO348 := n0_
     have HO352 := n1_
     have HO355 := n2_
     have BK345 := n3_
     have HB := n4_
     clear n0_ n1_ n2_ n3_ n4_
     (try clear hb)
     (try clear hb2)
     (try clear hk)
     (try clear hi)
     (try clear ho0)
     refine hK.out _ _ ⟨.slice Ao26 y346.length co26, .slice Ao27 y350.length co27, v354, m7_, (by rw [ha.out]; exact putSel_upk 5 hb_ rfl rfl rfl), (by (with_reducible repeat (first | refine blk_drewN ?_ _ | refine blk_drew ?_ | refine blk_alloc ?_ _)); exact BK345.out), (by repeat (first | (with_reducible first | exact HB.out | apply below_alloc | apply pw_below_drewN | apply below_drew1 | refine below_set ?_ GE345.out) | exact HB.out)), fun _ => (by (with_reducible repeat (first | apply Kd.R_alloc | apply Kd.R_drewN | apply Kd.R_drew)); exact HO348.out), fun _ => (by (with_reducible repeat (first | apply Kd.R_alloc | apply Kd.R_drewN | apply Kd.R_drew)); exact HO352.out), fun _ => (by (with_reducible repeat (first | apply Kd.R_alloc | apply Kd.R_drewN | apply Kd.R_drew)); exact HO355.out), fun h0_ => absurd ((hoff 7 (by kernel_rfl)).symm.trans h0_) (by decide)⟩
    refine steps_cons ?_ ?_
    ·rintro b a w' ⟨v347, v351, v354, m7_, ha, Q_BK345, Q_HB, Q_HO348, Q_HO352, Q_HO355, Q_X7_⟩ hb_ hon hoff
     refine ⟨_, rfl, fun K hK => ?_⟩
     have e12 : a.tmps[12]? = some (v354) := by rw [ha]; exact putSel_on (e := (6, 12, v354)) 5 rfl rfl (hon 6 (by kernel_rfl)) rfl
     replace ha := Aside0.mk ha
     have BK345 := Aside0.mk Q_BK345
     have HB := Aside0.mk Q_HB
     have HO348 := Aside0.mk (Q_HO348 (hon 0 (by kernel_rfl)))
     have HO352 := Aside0.mk (Q_HO352 (hon 5 (by kernel_rfl)))
     have HO355 := Aside0.mk (Q_HO355 (hon 6 (by kernel_rfl)))
     refine value_ (w1 := w') (v := v354) (by rfl) rfl ?_ ?_
     ·go_simp
      (try simp only [i64_w])
      try rfl
     refine hK.out _ _ ⟨v347, v351, v354, (v354), (by rw [ha.out]; exact putSel_upk 6 hb_ rfl rfl rfl), Q_BK345, Q_HB, Q_HO348, Q_HO352, Q_HO355, fun _ => rfl⟩
    exact steps_nil
   rintro b a w28 hall ⟨v347, v351, v354, m7_, ha, Q_BK345, Q_HB, Q_HO348, Q_HO352, Q_HO355, Q_X7_⟩
   clear BK345 HB
   have hb0_ := hall 0 (by kernel_rfl)
   have hb2_ := hall 2 (by kernel_rfl)
   have hb3_ := hall 3 (by kernel_rfl)
   have hb4_ := hall 4 (by kernel_rfl)
   have hb5_ := hall 5 (by kernel_rfl)
   have hb6_ := hall 6 (by kernel_rfl)
   have hb7_ := hall 7 (by kernel_rfl)
   subst ha
   obtain rfl := (Q_X7_ hb7_).symm
   simp only [putSel, hb0_, hb2_, hb3_, hb4_, hb5_, hb6_, hb7_, if_true, Act.put, List.setIfInBounds_toArray, List.set_cons_zero, List.set_cons_succ]
   have BK345 := Aside0.mk Q_BK345
   clear Q_BK345
   have HB := Aside0.mk Q_HB
   clear Q_HB
   have HO348 := Aside0.mk (Q_HO348 hb0_)
   clear Q_HO348
   have HO352 := Aside0.mk (Q_HO352 hb5_)
   clear Q_HO352
   have HO355 := Aside0.mk (Q_HO355 hb6_)
   clear Q_HO355
   clear hall hb0_ hb2_ hb3_ hb4_ hb5_ hb6_ hb7_
   try go_wp2_with (first | (at_builtin; refine Kd.R_append_zeros (Kd.int .u8) (w0 := w) w.heap.size rfl (.tmp 15) (.const (.int .i64 124)) 23 3 5 (.int .u8 0) 1 rfl Tryd.underlying23 Tryd.underlying3 info5 rfl (by decide) (by omega) v354 t353 0 (124 : Int) (fun _ => True) rfl rfl rfl ?aF ?aO (by omega) ?aB ?aS ?aL ?_; (case aB => exact (by repeat (first | (with_reducible first | exact HB.out | apply below_alloc | apply pw_below_drewN | apply below_drew1 | refine below_set ?_ GE345.out) | exact HB.out))); (case aF => exact (fun _ _ => trivial)); (case aO => exact (by (with_reducible repeat (first | apply Kd.R_alloc | apply Kd.R_drewN | apply Kd.R_drew)); exact HO355.out)); (case aS => exact (below_size (by repeat (first | (with_reducible first | exact HB.out | apply below_alloc | apply pw_below_drewN | apply below_drew1 | refine below_set ?_ GE345.out) | exact HB.out)))); (case aL => have := LMc17.out; omega); intro v357 w29 ho hb hg hat; (first | rw [← Ny356.out] at ho | (rw [show Int.toNat 124 = 124 from rfl] at ho; rw [← Ny356.out] at ho)); have n0_ := Aside0.mk (blk_grown (g := gb345) (o := .cells #[.int .u32 a0_0, .int .u64 a0_1, .bool a0_2] 44 (0, 0)) (by (with_reducible repeat (first | refine blk_drewN ?_ _ | refine blk_drew ?_ | refine blk_alloc ?_ _)); exact BK345.out) hg (Kd.R_ne HO355.out BK345.out (by decide))); have n1_ := Aside0.mk (Kd.R_over' (by (with_reducible repeat (first | apply Kd.R_alloc | apply Kd.R_drewN | apply Kd.R_drew)); exact HO348.out) (Kd.R_typed (by (with_reducible repeat (first | apply Kd.R_alloc | apply Kd.R_drewN | apply Kd.R_drew)); exact HO355.out)) (by decide) hg); have n2_ := Aside0.mk (Kd.R_over' (by (with_reducible repeat (first | apply Kd.R_alloc | apply Kd.R_drewN | apply Kd.R_drew)); exact HO352.out) (Kd.R_typed (by (with_reducible repeat (first | apply Kd.R_alloc | apply Kd.R_drewN | apply Kd.R_drew)); exact HO355.out)) (by decide) hg); have n3_ := Aside0.mk (hb); have n4_ := Aside0.mk (ho); clear BK345; clear HO348; clear HO352; clear HB; clear HO355; have BK345 := n0_; have HO348 := n1_; have HO352 := n2_; have HB := n3_; have HO358 := n4_; clear n0_ n1_ n2_ n3_ n4_; clear ho hb hg hat))
   go_ret
   exact ⟨_, by first | rfl | (simp [errW_none, errW_some] <;> rfl) | (simp [*, errW_none, errW_some] <;> rfl), by (with_reducible repeat (first | apply Kd.R_alloc | apply Kd.R_drewN | apply Kd.R_drew)); exact HO358.out, by repeat (first | (with_reducible first | exact HB.out | apply below_alloc | apply pw_below_drewN | apply below_drew1 | refine below_set ?_ GE345.out) | exact HB.out)⟩
  ·rw [if_neg c17] at H
   exact absurd H (by simp)
def req_form.f  : Option (List Int) := some (([4, 2, 2, 8, 8, 4] : List Int))
set_option maxHeartbeats 8000000 in
set_option maxRecDepth 100000 in
theorem req_form.calls  (r : List Int) (w : World) (h : req_form.f  = some r) :
  Calls Tryd.prog 87 #[] w fun e w' => ∃ v0_ : Value, e = .returned (v0_) ∧ Kd.R (Kd.int .i64) 3 w' w.heap.size (fun _ => True) v0_ r ∧ Below w.heap.size w w' := by
 have HB := Aside0.mk (Below.refl w.heap.size w)
 have H : (some (([4, 2, 2, 8, 8, 4] : List Int))) = some r := h
 clear h
 obtain ⟨y359, hy359⟩ : ∃ y_ : List Int, y_ = (([4, 2, 2, 8, 8, 4] : List Int)) := ⟨_, rfl⟩
 replace H : (some y359) = some r := by first | (rw [hy359]; with_reducible exact H) | (have H2_ := (Option.bind_some _ _).symm.trans H; rw [hy359]; with_reducible exact H2_) | (have H2_ := (Option.bind_some _ _).symm.trans H; with_reducible exact H2_) | with_reducible exact H | (rw [hy359]; exact H) | exact H
 have Ny359 := Aside0.mk hy359
 clear hy359
 obtain rfl := Option.some.inj H
 go_enter Tryd.func87, Tryd.ntmps87
 go_wp2_with (first | ((with_reducible refine gate_dst (N := 1) rfl ?_); refine Kd.R_lit (Kd.int .i64) _ 3 ?hg (N := 1) ?hd (xs := ([4, 2, 2, 8, 8, 4] : List Int)) (inner := [.int .i64 4, .int .i64 2, .int .i64 2, .int .i64 8, .int .i64 8, .int .i64 4]) (ok := fun _ => True) (okp := fun _ => True) ?hr ?hp (fun _ hk => hk) trivial (Below.refl _ _) (Nat.le_refl _) (by simp) ?_; (case hd => rfl); (case hg => rfl); (case hr => first | (go_simp; done) | (go_simp; rfl) | (go_simp; simp only [IntKind.wrap_u32, Int.emod_add_emod, Int.add_emod_emod])); (case hp => exact (Reps.one (show Kd.M (Kd.int .i64) _ _ _ 4 [.int .i64 4] from rfl) (Reps.one (show Kd.M (Kd.int .i64) _ _ _ 2 [.int .i64 2] from rfl) (Reps.one (show Kd.M (Kd.int .i64) _ _ _ 2 [.int .i64 2] from rfl) (Reps.one (show Kd.M (Kd.int .i64) _ _ _ 8 [.int .i64 8] from rfl) (Reps.one (show Kd.M (Kd.int .i64) _ _ _ 8 [.int .i64 8] from rfl) (Reps.one (show Kd.M (Kd.int .i64) _ _ _ 4 [.int .i64 4] from rfl) (Reps.none _ _)))))))); intro v360 w1 ho2 hb hg_ hnew_; clear hg_ hnew_; (first | rw [← Ny359.out] at ho2 | (simp only [Int.reduceToNat] at ho2; rw [← Ny359.out] at ho2)); have n0_ := Aside0.mk (Kd.R_lower ho2 (below_size (by repeat (first | (with_reducible first | exact HB.out | apply below_alloc | apply pw_below_drewN | apply below_drew1) | exact HB.out)))); have n1_ := Aside0.mk (below_step (by repeat (first | (with_reducible first | exact HB.out | apply below_alloc | apply pw_below_drewN | apply below_drew1) | exact HB.out)) hb); clear HB; have HO361 := n0_; have HB := n1_; clear n0_ n1_; clear hb ho2))
 go_ret
 exact ⟨_, by first | rfl | (simp [errW_none, errW_some] <;> rfl) | (simp [*, errW_none, errW_some] <;> rfl), by (with_reducible repeat (first | apply Kd.R_alloc | apply Kd.R_drewN | apply Kd.R_drew)); exact HO361.out, by repeat (first | (with_reducible first | exact HB.out | apply below_alloc | apply pw_below_drewN | apply below_drew1) | exact HB.out)⟩
end Go.Proofs.YtgljicdpcapgnaaDoor.PBase
