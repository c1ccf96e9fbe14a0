/- What the law's proof stands on, part 3: PBasex3, PBasex4, PBasex5, PBasex7, PBasex8, PBasex9, SpellFns, SpellFnsB, SpellFnsC, ShaMath, ShaN (laid together by wip/pack.py). -/
import Derived.Test.YtgljicdpcapgnaaDoorXEP2
namespace Go.Proofs.YtgljicdpcapgnaaDoor.PBase
open Go.RowKit Go.Proofs.YtgljicdpcapgnaaDoorW.PrintWords Go.Proofs.YtgljicdpcapgnaaDoorW.PrintLast Go.Proofs.YtgljicdpcapgnaaDoorW.PrintMore
attribute [local go_sem] max2_int min2_int max_two min_two max_three min_three max_four min_four   -- for this text's walks alone
set_option linter.unusedVariables false
set_option linter.unusedSimpArgs false
def mac_Same.l0 : Nat → List Int → List Int → Int → Int → Int → Option (Bool)
 | 0, _, _, _, _, _ => none
 | k + 1, x0, x1, x5, x13, x14 => if x14 < x13 then (if 0 ≤ x14 then (if x14 < (x0.length : Int) then (if x14 < (x1.length : Int) then (mac_Same.l0 k x0 x1 (Go.bits .or .u8 x5 (Go.bits .xor .u8 (rd x0 x14) (rd x1 x14))) x13 (wrap64 (x14 + 1))) else (none)) else (none)) else (none)) else (some (x5 == 0))
def mac_Same.f (k : Nat) (l0 : List Int) (l1 : List Int) : Option (Bool) := if (l0.length : Int) = (l1.length : Int) then (mac_Same.l0 k l0 l1 0 (l0.length : Int) 0) else (some false)
set_option maxHeartbeats 8000000 in
set_option maxRecDepth 100000 in
theorem mac_Same.calls (k : Nat) (A0 : Option Addr) (c0 : Nat) (l0 : List Int) (A1 : Option Addr) (c1 : Nat) (l1 : List Int) (r : Bool) (w : World) (hr0 : Kd.C (Kd.int .u8) w A0 l0.length l0) (hc0 : l0.length ≤ c0) (hr1 : Kd.C (Kd.int .u8) w A1 l1.length l1) (hc1 : l1.length ≤ c1) (h : mac_Same.f k l0 l1 = some r) :
  Calls Tryd.prog 45 #[.slice A0 l0.length c0, .slice A1 l1.length c1] w fun e w' => e = .returned (.bool r) ∧ Drawn0 w w' := by
 have HR0 := Aside0.mk hr0
 have HC0 := Aside0.mk hc0
 clear hr0 hc0
 have HR1 := Aside0.mk hr1
 have HC1 := Aside0.mk hc1
 clear hr1 hc1
 have H : (if (l0.length : Int) = (l1.length : Int) then (mac_Same.l0 k l0 l1 0 (l0.length : Int) 0) else (some false)) = some r := h
 clear h
 by_cases c3 : (l0.length : Int) = (l1.length : Int)
 ·rw [if_pos c3] at H
  have c3b0 : ((l0.length : Int) == (l1.length : Int)) = true := beq_iff_eq.mpr c3
  have c3b1 : ((l0.length : Int) != (l1.length : Int)) = false := bne_eq_false_iff_eq.mpr c3
  have c3b2 : (l0.length == l1.length) = true := by first | simpa using c3 | (simp at c3 ⊢; omega)
  clear c3
  have H' := Aside0.mk H
  clear H
  go_enter Tryd.func45, Tryd.ntmps45
  go_wp2
  repeat (go_quiet (fail); try go_wp2)
  go_loopg [5, 14] k (fun kq v5 v14 w' => ∃ (x5_1 : Int) (x14_1 : Int), v5 = .int .u8 x5_1 ∧ v14 = .int .i64 x14_1 ∧ Aside0 (mac_Same.l0 kq l0 l1 x5_1 (l0.length : Int) x14_1 = some r) ∧ Aside0 (kq ≤ k) ∧ Drawn0 w w')
  case atStart => exact ⟨(0), (0), (by first | rfl | (simp; done) | (simp [*]; done)), (by first | rfl | (simp; done) | (simp [*]; done)), H', ⟨Nat.le_refl _⟩, by repeat (first | exact Drawn0.refl _ | apply Drawn0.step)⟩
  case round =>
   clear H'
   try clear c1
   try clear p2
   try clear c3
   try clear c3b0
   try clear c3b1
   try clear c3b2
   obtain ⟨x5_1, x14_1, rfl, rfl, HA, HK1, ⟨m1, rfl⟩⟩ := hrel
   cases gk with
   | zero => exact absurd HA.out (by simp [mac_Same.l0])
   | succ k1 =>
    have H := HA.out
    clear HA
    simp only [mac_Same.l0] at H
    by_cases c4 : x14_1 < (l0.length : Int)
    ·rw [if_pos c4] at H
     have c4b0 : decide (x14_1 < (l0.length : Int)) = true := decide_eq_true c4
     clear c4
     by_cases c5 : 0 ≤ x14_1
     ·rw [if_pos c5] at H
      have c5b0 : decide (0 ≤ x14_1) = true := decide_eq_true c5
      clear c5
      by_cases c6 : x14_1 < (l0.length : Int)
      ·rw [if_pos c6] at H
       have c6b0 : decide (x14_1 < (l0.length : Int)) = true := decide_eq_true c6
       clear c6
       by_cases c7 : x14_1 < (l1.length : Int)
       ·rw [if_pos c7] at H
        have c7b0 : decide (x14_1 < (l1.length : Int)) = true := decide_eq_true c7
        clear c7
        have H' := Aside0.mk H
        clear H
        have p171 : 0 ≤ (x14_1 : Int) := of_decide_eq_true (by first | (with_reducible assumption) | assumption)
        have q171 : x14_1 < (l0.length : Int) := of_decide_eq_true (by first | (with_reducible assumption) | assumption)
        obtain ⟨ad171, e171, hx171_0⟩ := Kd.at_int HR0.out x14_1 p171 q171
        cases e171
        replace p171 := eq_true p171
        replace q171 := eq_true q171
        have p172 : 0 ≤ (x14_1 : Int) := of_decide_eq_true (by first | (with_reducible assumption) | assumption)
        have q172 : x14_1 < (l1.length : Int) := of_decide_eq_true (by first | (with_reducible assumption) | assumption)
        obtain ⟨ad172, e172, hx172_0⟩ := Kd.at_int HR1.out x14_1 p172 q172
        cases e172
        replace p172 := eq_true p172
        replace q172 := eq_true q172
        go_wp2
        repeat (go_quiet (fail); try go_wp2)
        go_roundg k1
        case measure => have := HK1.out; omega
        case rel => exact ⟨(Go.bits .or .u8 x5_1 (Go.bits .xor .u8 (rd l0 x14_1) (rd l1 x14_1))), (wrap64 (x14_1 + 1)), (by first | rfl | (simp; done) | (simp [*]; done)), (by first | rfl | (simp; done) | (simp [*]; done)), H', ⟨by have := HK1.out; omega⟩, by repeat (first | exact Drawn0.refl _ | apply Drawn0.step)⟩
       ·rw [if_neg c7] at H
        exact absurd H (by simp)
      ·rw [if_neg c6] at H
       exact absurd H (by simp)
     ·rw [if_neg c5] at H
      exact absurd H (by simp)
    ·rw [if_neg c4] at H
     have c4b0 : decide (x14_1 < (l0.length : Int)) = false := decide_eq_false c4
     clear c4
     obtain rfl := Option.some.inj H
     go_wp2
     repeat (go_quiet (fail); try go_wp2)
     go_ret
     exact ⟨by first | rfl | (simp; done) | (simp [*]; done), by repeat (first | exact Drawn0.refl _ | apply Drawn0.step)⟩
 ·rw [if_neg c3] at H
  have c3b0 : ((l0.length : Int) == (l1.length : Int)) = false := beq_eq_false_iff_ne.mpr c3
  have c3b1 : ((l0.length : Int) != (l1.length : Int)) = true := bne_iff_ne.mpr c3
  have c3b2 : (l0.length == l1.length) = false := by first | simpa using c3 | (simp at c3 ⊢; omega)
  obtain rfl := Option.some.inj H
  go_enter Tryd.func45, Tryd.ntmps45
  go_wp2
  repeat (go_quiet (fail); try go_wp2)
  go_ret
  exact ⟨by first | rfl | (simp; done) | (simp [*]; done), by repeat (first | exact Drawn0.refl _ | apply Drawn0.step)⟩
def spell_number.j0 : Nat → Int → Bool → Option (Int × Bool)
 | 0, _, _ => none
 | k + 1, x0, x4 => if x4 = true then (some ((x0 - 97) % 256, true)) else (if x0 ≥ 50 then (if x0 ≤ 55 then (some (((x0 - 50) % 256) + 26, true)) else (some (0, false))) else (some (0, false)))
def spell_number.f (k : Nat) (a0 : Int) : Option (Int × Bool) := if a0 ≥ 97 then (spell_number.j0 k a0 (decide (a0 ≤ 122))) else (spell_number.j0 k a0 false)
set_option maxHeartbeats 8000000 in
set_option maxRecDepth 100000 in
theorem spell_number.calls (k : Nat) (a0 : Int) (r1 : Int) (r2 : Bool) (w : World) (h : spell_number.f k a0 = some (r1, r2)) :
  Calls Tryd.prog 72 #[.int .u8 a0] w fun e w' => e = .returned (.tuple #[.int .u64 r1, .bool r2]) ∧ Drawn0 w w' := by
 have H : (if a0 ≥ 97 then (spell_number.j0 k a0 (decide (a0 ≤ 122))) else (spell_number.j0 k a0 false)) = some (r1, r2) := h
 clear h
 have HC2 := Aside0.mk H
 clear H
 go_enter Tryd.func72, Tryd.ntmps72
 go_upto_region 1 with (fail)
 go_cut [4] (fun v4 wc => ∃ (kq : Nat) (x4_1 : Bool), v4 = .bool x4_1 ∧ Aside0 (spell_number.j0 kq a0 x4_1 = some (r1, r2)) ∧ Aside0 (kq ≤ k) ∧ Drawn0 w wc)
 case first =>
  have H := HC2.out
  clear HC2
  by_cases c3 : a0 ≥ 97
  ·rw [if_pos c3] at H
   have c3b0 : decide (97 ≤ a0) = true := decide_eq_true c3
   clear c3
   (first | rw [c3b0] | (simp only [i64_w, i32_w]; rw [c3b0]) | skip)
   have H' := Aside0.mk H
   clear H
   go_wp2
   go_meet
   case rel => exact ⟨_, (decide (a0 ≤ 122)), (by first | rfl | (simp; done) | (simp [*]; done)), H', ⟨by first | omega | exact Nat.le_refl _⟩, by repeat (first | exact Drawn0.refl _ | apply Drawn0.step)⟩
  ·rw [if_neg c3] at H
   have c3b0 : decide (97 ≤ a0) = false := decide_eq_false c3
   clear c3
   (first | rw [c3b0] | (simp only [i64_w, i32_w]; rw [c3b0]) | skip)
   have H' := Aside0.mk H
   clear H
   go_wp2
   go_meet
   case rel => exact ⟨_, (false), (by first | rfl | (simp; done) | (simp [*]; done)), H', ⟨by first | omega | exact Nat.le_refl _⟩, by repeat (first | exact Drawn0.refl _ | apply Drawn0.step)⟩
 case rest =>
  clear HC2
  try clear p2
  try clear c3
  try clear c3b0
  obtain ⟨kq, x4_1, rfl, HA, HJ1, ⟨mc1, rfl⟩⟩ := hcut
  cases kq with
  | zero => exact absurd HA.out (by simp [spell_number.j0])
  | succ kj1 =>
   have H := HA.out
   clear HA
   simp only [spell_number.j0] at H
   by_cases c4 : x4_1 = true
   ·subst c4
    have H1 : (some ((a0 - 97) % 256, true)) = some (r1, r2) := by rw [if_pos rfl] at H; exact H
    clear H
    have H := H1
    clear H1
    simp only [Option.some.injEq, Prod.mk.injEq] at H
    obtain ⟨rfl, rfl⟩ := H
    go_wp2
    go_ret2
    exact ⟨by first | rfl | (simp; done) | (simp [*]; done), by repeat (first | exact Drawn0.refl _ | apply Drawn0.step)⟩
   ·replace c4 := Bool.eq_false_iff.mpr c4
    subst c4
    have H1 : (if a0 ≥ 50 then (if a0 ≤ 55 then (some (((a0 - 50) % 256) + 26, true)) else (some (0, false))) else (some (0, false))) = some (r1, r2) := by rw [if_neg (show ¬ (false = true) by decide)] at H; exact H
    clear H
    have H := H1
    clear H1
    by_cases c5 : a0 ≥ 50
    ·rw [if_pos c5] at H
     have c5b0 : decide (50 ≤ a0) = true := decide_eq_true c5
     clear c5
     by_cases c6 : a0 ≤ 55
     ·rw [if_pos c6] at H
      have c6b0 : decide (a0 ≤ 55) = true := decide_eq_true c6
      clear c6
      simp only [Option.some.injEq, Prod.mk.injEq] at H
      obtain ⟨rfl, rfl⟩ := H
      go_wp2
      go_ret2
      exact ⟨by first | rfl | (simp; done) | (simp [*]; done), by repeat (first | exact Drawn0.refl _ | apply Drawn0.step)⟩
     ·rw [if_neg c6] at H
      have c6b0 : decide (a0 ≤ 55) = false := decide_eq_false c6
      clear c6
      simp only [Option.some.injEq, Prod.mk.injEq] at H
      obtain ⟨rfl, rfl⟩ := H
      go_wp2
      go_ret2
      exact ⟨by first | rfl | (simp; done) | (simp [*]; done), by repeat (first | exact Drawn0.refl _ | apply Drawn0.step)⟩
    ·rw [if_neg c5] at H
     have c5b0 : decide (50 ≤ a0) = false := decide_eq_false c5
     clear c5
     simp only [Option.some.injEq, Prod.mk.injEq] at H
     obtain ⟨rfl, rfl⟩ := H
     go_wp2
     go_ret2
     exact ⟨by first | rfl | (simp; done) | (simp [*]; done), by repeat (first | exact Drawn0.refl _ | apply Drawn0.step)⟩
def spell_Read.l0 : Nat → ByteArray → List Int → Int → Int → Int → Int → Option (List Int × Int)
 | 0, _, _, _, _, _, _ => none
 | k + 1, x0, x4, x5, x6, x11, x12 => if x12 < x11 then (if 0 ≤ x12 then (if x12 < (x0.size : Int) then ((spell_number.f k (bt x0 x12)).bind fun bt173 => (if bt173.2 = true then (if (wrap64 (x6 + 5)) ≥ 8 then (if 0 ≤ (wrap64 ((wrap64 (x6 + 5)) - 8)) then (if x4.length < 140737488355328 then (spell_Read.l0 k x0 (x4 ++ [(shr .u64 (Go.bits .or .u64 (IntKind.u64.wrap (x5 * 32)) bt173.1) (wrap64 ((wrap64 (x6 + 5)) - 8))) % 256]) (Go.bits .and .u64 (Go.bits .or .u64 (IntKind.u64.wrap (x5 * 32)) bt173.1) (IntKind.u64.wrap ((shl .u64 1 (wrap64 ((wrap64 (x6 + 5)) - 8))) - 1))) (wrap64 ((wrap64 (x6 + 5)) - 8)) x11 (wrap64 (x12 + 1))) else (none)) else (none)) else (spell_Read.l0 k x0 x4 (Go.bits .or .u64 (IntKind.u64.wrap (x5 * 32)) bt173.1) (wrap64 (x6 + 5)) x11 (wrap64 (x12 + 1)))) else (some (([] : List Int), 40)))) else (none)) else (none)) else (if x6 ≥ 5 then (some (([] : List Int), 40)) else (if x5 = 0 then (some (x4, 0)) else (some (([] : List Int), 40))))
def spell_Read.f (k : Nat) (a0 : ByteArray) : Option (List Int × Int) := spell_Read.l0 k a0 ([] : List Int) 0 0 (a0.size : Int) 0
set_option maxHeartbeats 8000000 in
set_option maxRecDepth 100000 in
theorem spell_Read.calls (k : Nat) (a0 : ByteArray) (r1 : List Int) (r2 : Int) (w : World) (h : spell_Read.f k a0 = some (r1, r2)) :
  Calls Tryd.prog 57 #[.string a0] w fun e w' => ∃ v0_ : Value, e = .returned (.tuple #[v0_, .int .u16 r2]) ∧ Kd.R (Kd.int .u8) 5 w' w.heap.size (fun _ => True) v0_ r1 ∧ Below w.heap.size w w' := by
 have HB := Aside0.mk (Below.refl w.heap.size w)
 have H : (spell_Read.l0 k a0 ([] : List Int) 0 0 (a0.size : Int) 0) = some (r1, r2) := h
 clear h
 have H' := Aside0.mk H
 clear H
 go_enter Tryd.func57, Tryd.ntmps57
 go_wp2
 go_loopg [4, 5, 6, 12] k (fun kq v4 v5 v6 v12 w' => ∃ (x4_1 : List Int) (x5_1 : Int) (x6_1 : Int) (x12_1 : Int), v5 = .int .u64 x5_1 ∧ v6 = .int .i64 x6_1 ∧ v12 = .int .i64 x12_1 ∧ Aside0 (spell_Read.l0 kq a0 x4_1 x5_1 x6_1 (a0.size : Int) x12_1 = some (r1, r2)) ∧ Aside0 (kq ≤ k) ∧ Aside0 (Kd.R (Kd.int .u8) 5 w' w.heap.size (fun _ => True) v4 x4_1) ∧ Aside0 (Below w.heap.size w w'))
 case atStart => exact ⟨(([] : List Int)), (0), (0), (0), (by first | rfl | (simp; done) | (simp [*]; done)), (by first | rfl | (simp; done) | (simp [*]; done)), (by first | rfl | (simp; done) | (simp [*]; done)), H', ⟨Nat.le_refl _⟩, ⟨by first | exact Kd.R_nil _ _ _ _ _ | exact Kd.N_nil _ _ _ _ _ | exact Kd.V_nil _ _ _ _ _ | exact Kd.Q_nil _ _ _ _ _ | exact Kd.S_nil _ _ _ _ _⟩, ⟨by repeat (first | (with_reducible first | exact HB.out | apply below_alloc | apply pw_below_drewN | apply below_drew1) | exact HB.out)⟩⟩
 case round =>
  clear H'
  obtain ⟨x4_1, x5_1, x6_1, x12_1, rfl, rfl, rfl, HA, HK1, HO_4, HB⟩ := hrel
  cases gk with
  | zero => exact absurd HA.out (by simp [spell_Read.l0])
  | succ k1 =>
   have H := HA.out
   clear HA
   simp only [spell_Read.l0] at H
   by_cases c2 : x12_1 < (a0.size : Int)
   ·rw [if_pos c2] at H
    have c2b0 : decide (x12_1 < (a0.size : Int)) = true := decide_eq_true c2
    clear c2
    by_cases c3 : 0 ≤ x12_1
    ·rw [if_pos c3] at H
     have c3b0 : decide (0 ≤ x12_1) = true := decide_eq_true c3
     clear c3
     by_cases c4 : x12_1 < (a0.size : Int)
     ·rw [if_pos c4] at H
      have c4b0 : decide (x12_1 < (a0.size : Int)) = true := decide_eq_true c4
      clear c4
      replace H := Option.bind_eq_some_iff.mp H
      obtain ⟨⟨t173, t174⟩, A60, H⟩ := H
      replace H : (if t174 = true then (if (wrap64 (x6_1 + 5)) ≥ 8 then (if 0 ≤ (wrap64 ((wrap64 (x6_1 + 5)) - 8)) then (if x4_1.length < 140737488355328 then (spell_Read.l0 k1 a0 (x4_1 ++ [(shr .u64 (Go.bits .or .u64 (IntKind.u64.wrap (x5_1 * 32)) t173) (wrap64 ((wrap64 (x6_1 + 5)) - 8))) % 256]) (Go.bits .and .u64 (Go.bits .or .u64 (IntKind.u64.wrap (x5_1 * 32)) t173) (IntKind.u64.wrap ((shl .u64 1 (wrap64 ((wrap64 (x6_1 + 5)) - 8))) - 1))) (wrap64 ((wrap64 (x6_1 + 5)) - 8)) (a0.size : Int) (wrap64 (x12_1 + 1))) else (none)) else (none)) else (spell_Read.l0 k1 a0 x4_1 (Go.bits .or .u64 (IntKind.u64.wrap (x5_1 * 32)) t173) (wrap64 (x6_1 + 5)) (a0.size : Int) (wrap64 (x12_1 + 1)))) else (some (([] : List Int), 40))) = some (r1, r2) := H
      have A6 := Aside0.mk A60
      clear A60
      by_cases c7 : t174 = true
      ·subst c7
       have H1 : (if (wrap64 (x6_1 + 5)) ≥ 8 then (if 0 ≤ (wrap64 ((wrap64 (x6_1 + 5)) - 8)) then (if x4_1.length < 140737488355328 then (spell_Read.l0 k1 a0 (x4_1 ++ [(shr .u64 (Go.bits .or .u64 (IntKind.u64.wrap (x5_1 * 32)) t173) (wrap64 ((wrap64 (x6_1 + 5)) - 8))) % 256]) (Go.bits .and .u64 (Go.bits .or .u64 (IntKind.u64.wrap (x5_1 * 32)) t173) (IntKind.u64.wrap ((shl .u64 1 (wrap64 ((wrap64 (x6_1 + 5)) - 8))) - 1))) (wrap64 ((wrap64 (x6_1 + 5)) - 8)) (a0.size : Int) (wrap64 (x12_1 + 1))) else (none)) else (none)) else (spell_Read.l0 k1 a0 x4_1 (Go.bits .or .u64 (IntKind.u64.wrap (x5_1 * 32)) t173) (wrap64 (x6_1 + 5)) (a0.size : Int) (wrap64 (x12_1 + 1)))) = some (r1, r2) := by rw [if_pos rfl] at H; exact H
       clear H
       have H := H1
       clear H1
       by_cases c8 : (wrap64 (x6_1 + 5)) ≥ 8
       ·rw [if_pos c8] at H
        have c8b0 : decide (8 ≤ (wrap64 (x6_1 + 5))) = true := decide_eq_true c8
        clear c8
        obtain ⟨ji9, hji9⟩ : ∃ j_ : Int, (wrap64 ((wrap64 (x6_1 + 5)) - 8)) = j_ := ⟨_, rfl⟩
        replace H : (if 0 ≤ (ji9) then (if x4_1.length < 140737488355328 then (spell_Read.l0 k1 a0 (x4_1 ++ [(shr .u64 (Go.bits .or .u64 (IntKind.u64.wrap (x5_1 * 32)) t173) (ji9)) % 256]) (Go.bits .and .u64 (Go.bits .or .u64 (IntKind.u64.wrap (x5_1 * 32)) t173) (IntKind.u64.wrap ((shl .u64 1 (ji9)) - 1))) ji9 (a0.size : Int) (wrap64 (x12_1 + 1))) else (none)) else (none)) = some (r1, r2) := by first | (rw [hji9] at H; exact H) | (simp only [hji9] at H ⊢; exact H)
        (try rw [hji9] at A6)
        have hji9w : (IntKind.i64.wrap ((wrap64 (x6_1 + 5)) - 8)) = ji9 := (i64_w _).trans hji9
        by_cases c10 : 0 ≤ (ji9)
        ·rw [if_pos c10] at H
         have c10b0 := eq_true c10
         have c10b1 : decide (0 ≤ (ji9)) = true := decide_eq_true c10
         clear c10
         obtain ⟨ji11, hji11⟩ : ∃ j_ : Int, (shr .u64 (Go.bits .or .u64 (IntKind.u64.wrap (x5_1 * 32)) t173) (ji9)) = j_ := ⟨_, rfl⟩
         replace H : (if x4_1.length < 140737488355328 then (spell_Read.l0 k1 a0 (x4_1 ++ [(ji11) % 256]) (Go.bits .and .u64 (Go.bits .or .u64 (IntKind.u64.wrap (x5_1 * 32)) t173) (IntKind.u64.wrap ((shl .u64 1 (ji9)) - 1))) ji9 (a0.size : Int) (wrap64 (x12_1 + 1))) else (none)) = some (r1, r2) := by first | (rw [hji11] at H; exact H) | (simp only [hji11] at H ⊢; exact H)
         (try rw [hji11] at A6)
         have hji11_ : ((Go.bits .or .u64 (IntKind.u64.wrap (x5_1 * 32)) t173) / 2 ^ min (ji9).toNat 64) = ji11 := hji11
         have hji11z : (ji9) ≤ 64 → ((Go.bits .or .u64 (IntKind.u64.wrap (x5_1 * 32)) t173) / 2 ^ (ji9).toNat) = ji11 := shr_small hji11
         by_cases c12 : x4_1.length < 140737488355328
         ·rw [if_pos c12] at H
          have LMc12 := Aside0.mk c12
          clear c12
          obtain ⟨y175, hy175⟩ : ∃ y_ : List Int, y_ = (x4_1 ++ [(ji11) % 256]) := ⟨_, rfl⟩
          replace H : (spell_Read.l0 k1 a0 y175 (Go.bits .and .u64 (Go.bits .or .u64 (IntKind.u64.wrap (x5_1 * 32)) t173) (IntKind.u64.wrap ((shl .u64 1 (ji9)) - 1))) ji9 (a0.size : Int) (wrap64 (x12_1 + 1))) = some (r1, r2) := by first | (rw [hy175]; with_reducible exact H) | (have H2_ := (Option.bind_some _ _).symm.trans H; rw [hy175]; with_reducible exact H2_) | (have H2_ := (Option.bind_some _ _).symm.trans H; with_reducible exact H2_) | with_reducible exact H | (rw [hy175]; exact H) | exact H
          have Ny175 := Aside0.mk hy175
          clear hy175
          have c13b0 := eq_true (of_decide_eq_true (by first | (with_reducible assumption) | assumption) : 0 ≤ (ji9))
          obtain ⟨ji14, hji14⟩ : ∃ j_ : Int, (shl .u64 1 (ji9)) = j_ := ⟨_, rfl⟩
          replace H : (spell_Read.l0 k1 a0 y175 (Go.bits .and .u64 (Go.bits .or .u64 (IntKind.u64.wrap (x5_1 * 32)) t173) (IntKind.u64.wrap ((ji14) - 1))) ji9 (a0.size : Int) (wrap64 (x12_1 + 1))) = some (r1, r2) := by first | (rw [hji14] at H; exact H) | (simp only [hji14] at H ⊢; exact H)
          (try rw [hji14] at A6)
          have hji14_ : (IntKind.u64.wrap (1 * 2 ^ min (ji9).toNat 64)) = ji14 := hji14
          have hji14z : (ji9) ≤ 64 → (IntKind.u64.wrap (1 * 2 ^ (ji9).toNat)) = ji14 := shl_small hji14
          have hji14u : (IntKind.u64.wrap (2 ^ min (ji9).toNat 64)) = ji14 := by have h_ := hji14_; rw [Int.one_mul] at h_; exact h_
          have hji14v : (ji9) ≤ 64 → (IntKind.u64.wrap (2 ^ (ji9).toNat)) = ji14 := fun hle_ => by have h_ := hji14z hle_; rw [Int.one_mul] at h_; exact h_
          have H' := Aside0.mk H
          clear H
          have p5 : 0 ≤ (x12_1 : Int) := of_decide_eq_true (by first | (with_reducible assumption) | assumption)
          have q5 : x12_1 < (a0.size : Int) := of_decide_eq_true (by first | (with_reducible assumption) | assumption)
          have hx5 := bt_at a0 x12_1
          replace p5 := eq_true p5
          replace q5 := eq_true q5
          go_wp2_with (first | ((with_reducible refine gate_callee (f := 72) rfl ?_); refine goesL_ (some 19) rfl rfl Tryd.func72 (by kernel_rfl) rfl #[.int .u8 (bt a0 x12_1)] rfl (by (try simp only [List.map_toArray, List.map_cons, List.map_nil]); first | done | rfl | (simp only [List.length_drop, List.length_take]; rfl) | (simp only [List.length_drop, List.length_take]; (repeat rw [Nat.min_eq_left (by simp only [eq_iff_iff, iff_true] at *; omega)]); rfl)) ?_; (with_reducible refine (spell_number.calls k1 (bt a0 x12_1) t173 true _ A6.out).mono ?_); rintro e w' ⟨rfl, ⟨nd, rfl⟩⟩; refine ⟨_, rfl, ?_⟩) | ((with_reducible refine gate_builtin (b := .append) (xs := #[.tmp 34, .tmp 39]) rfl ?_); at_builtin; refine Kd.R_append (Kd.int .u8) (w0 := w) w.heap.size rfl (.tmp 34) (.tmp 39) 23 5 (.int .u8 0) 1 rfl Tryd.underlying23 info5 rfl (by decide) (by omega) u4 x4_1 ((ji11) % 256) [.int .u8 ((ji11) % 256)] (fun _ => True) (fun _ => False) rfl rfl ?aP (fun _ hk => hk.elim) ?aF ?aO ?aB ?aS ?aL ?_; (case aP => exact rfl); (case aB => exact (by repeat (first | (with_reducible first | exact HB.out | apply below_alloc | apply pw_below_drewN | apply below_drew1) | exact HB.out))); (case aF => exact (fun _ _ => trivial)); (case aO => exact (by (with_reducible repeat (first | apply Kd.R_alloc | apply Kd.R_drewN | apply Kd.R_drew)); exact HO_4.out)); (case aS => exact (below_size (by repeat (first | (with_reducible first | exact HB.out | apply below_alloc | apply pw_below_drewN | apply below_drew1) | exact HB.out)))); (case aL => have := LMc12.out; omega); intro v176 w15 ho hb hg hat; rw [← Ny175.out] at ho; have n0_ := Aside0.mk (hb); have n1_ := Aside0.mk (ho); clear HB; clear HO_4; have HB := n0_; have HO177 := n1_; clear n0_ n1_; clear ho hb hg hat))
          go_roundg k1
          case measure => have := HK1.out; omega
          case rel => exact ⟨(y175), (Go.bits .and .u64 (Go.bits .or .u64 (IntKind.u64.wrap (x5_1 * 32)) t173) (IntKind.u64.wrap ((ji14) - 1))), (ji9), (wrap64 (x12_1 + 1)), (by first | rfl | (simp; done) | (simp only [← hji14] <;> (first | rfl | simp)) | (simp [*]; done)), (by first | rfl | (simp; done) | (simp only [← hji9] <;> (first | rfl | simp)) | (simp [*]; done)), (by first | rfl | (simp; done) | (simp [*]; done)), H', ⟨by have := HK1.out; omega⟩, ⟨by (with_reducible repeat (first | apply Kd.R_alloc | apply Kd.R_drewN | apply Kd.R_drew)); exact HO177.out⟩, ⟨by repeat (first | (with_reducible first | exact HB.out | apply below_alloc | apply pw_below_drewN | apply below_drew1) | exact HB.out)⟩⟩
         ·rw [if_neg c12] at H
          exact absurd H (by simp)
        ·rw [if_neg c10] at H
         exact absurd H (by simp)
       ·rw [if_neg c8] at H
        have c8b0 : decide (8 ≤ (wrap64 (x6_1 + 5))) = false := decide_eq_false c8
        clear c8
        have H' := Aside0.mk H
        clear H
        have p5 : 0 ≤ (x12_1 : Int) := of_decide_eq_true (by first | (with_reducible assumption) | assumption)
        have q5 : x12_1 < (a0.size : Int) := of_decide_eq_true (by first | (with_reducible assumption) | assumption)
        have hx5 := bt_at a0 x12_1
        replace p5 := eq_true p5
        replace q5 := eq_true q5
        go_wp2_with (first | ((with_reducible refine gate_callee (f := 72) rfl ?_); refine goesL_ (some 19) rfl rfl Tryd.func72 (by kernel_rfl) rfl #[.int .u8 (bt a0 x12_1)] rfl (by (try simp only [List.map_toArray, List.map_cons, List.map_nil]); first | done | rfl | (simp only [List.length_drop, List.length_take]; rfl) | (simp only [List.length_drop, List.length_take]; (repeat rw [Nat.min_eq_left (by simp only [eq_iff_iff, iff_true] at *; omega)]); rfl)) ?_; (with_reducible refine (spell_number.calls k1 (bt a0 x12_1) t173 true _ A6.out).mono ?_); rintro e w' ⟨rfl, ⟨nd, rfl⟩⟩; refine ⟨_, rfl, ?_⟩))
        go_roundg k1
        case measure => have := HK1.out; omega
        case rel => exact ⟨(x4_1), (Go.bits .or .u64 (IntKind.u64.wrap (x5_1 * 32)) t173), (wrap64 (x6_1 + 5)), (wrap64 (x12_1 + 1)), (by first | rfl | (simp; done) | (simp [*]; done)), (by first | rfl | (simp; done) | (simp [*]; done)), (by first | rfl | (simp; done) | (simp [*]; done)), H', ⟨by have := HK1.out; omega⟩, ⟨by (with_reducible repeat (first | apply Kd.R_alloc | apply Kd.R_drewN | apply Kd.R_drew)); exact HO_4.out⟩, ⟨by repeat (first | (with_reducible first | exact HB.out | apply below_alloc | apply pw_below_drewN | apply below_drew1) | exact HB.out)⟩⟩
      ·replace c7 := Bool.eq_false_iff.mpr c7
       subst c7
       have H1 : (some (([] : List Int), 40)) = some (r1, r2) := by rw [if_neg (show ¬ (false = true) by decide)] at H; exact H
       clear H
       have H := H1
       clear H1
       simp only [Option.some.injEq, Prod.mk.injEq] at H
       obtain ⟨rfl, rfl⟩ := H
       have p5 : 0 ≤ (x12_1 : Int) := of_decide_eq_true (by first | (with_reducible assumption) | assumption)
       have q5 : x12_1 < (a0.size : Int) := of_decide_eq_true (by first | (with_reducible assumption) | assumption)
       have hx5 := bt_at a0 x12_1
       replace p5 := eq_true p5
       replace q5 := eq_true q5
       go_wp2_with (first | ((with_reducible refine gate_callee (f := 72) rfl ?_); refine goesL_ (some 19) rfl rfl Tryd.func72 (by kernel_rfl) rfl #[.int .u8 (bt a0 x12_1)] rfl (by (try simp only [List.map_toArray, List.map_cons, List.map_nil]); first | done | rfl | (simp only [List.length_drop, List.length_take]; rfl) | (simp only [List.length_drop, List.length_take]; (repeat rw [Nat.min_eq_left (by simp only [eq_iff_iff, iff_true] at *; omega)]); rfl)) ?_; (with_reducible refine (spell_number.calls k1 (bt a0 x12_1) t173 false _ A6.out).mono ?_); rintro e w' ⟨rfl, ⟨nd, rfl⟩⟩; refine ⟨_, rfl, ?_⟩))
       go_ret2
       exact ⟨_, by first | rfl | (simp [errW_none, errW_some] <;> rfl) | (simp [*, errW_none, errW_some] <;> rfl), by first | exact Kd.R_nil _ _ _ _ _ | exact Kd.N_nil _ _ _ _ _ | exact Kd.V_nil _ _ _ _ _ | exact Kd.Q_nil _ _ _ _ _ | exact Kd.S_nil _ _ _ _ _, by repeat (first | (with_reducible first | exact HB.out | apply below_alloc | apply pw_below_drewN | apply below_drew1) | exact HB.out)⟩
     ·rw [if_neg c4] at H
      exact absurd H (by simp)
    ·rw [if_neg c3] at H
     exact absurd H (by simp)
   ·rw [if_neg c2] at H
    have c2b0 : decide (x12_1 < (a0.size : Int)) = false := decide_eq_false c2
    clear c2
    by_cases c16 : x6_1 ≥ 5
    ·rw [if_pos c16] at H
     have c16b0 : decide (5 ≤ x6_1) = true := decide_eq_true c16
     clear c16
     simp only [Option.some.injEq, Prod.mk.injEq] at H
     obtain ⟨rfl, rfl⟩ := H
     go_wp2
     go_ret2
     exact ⟨_, by first | rfl | (simp [errW_none, errW_some] <;> rfl) | (simp [*, errW_none, errW_some] <;> rfl), by first | exact Kd.R_nil _ _ _ _ _ | exact Kd.N_nil _ _ _ _ _ | exact Kd.V_nil _ _ _ _ _ | exact Kd.Q_nil _ _ _ _ _ | exact Kd.S_nil _ _ _ _ _, by repeat (first | (with_reducible first | exact HB.out | apply below_alloc | apply pw_below_drewN | apply below_drew1) | exact HB.out)⟩
    ·rw [if_neg c16] at H
     have c16b0 : decide (5 ≤ x6_1) = false := decide_eq_false c16
     clear c16
     by_cases c17 : x5_1 = 0
     ·rw [if_pos c17] at H
      have c17b0 : (x5_1 == 0) = true := beq_iff_eq.mpr c17
      have c17b1 : (x5_1 != 0) = false := bne_eq_false_iff_eq.mpr c17
      clear c17
      simp only [Option.some.injEq, Prod.mk.injEq] at H
      obtain ⟨rfl, rfl⟩ := H
      go_wp2
      go_ret2
      exact ⟨_, by first | rfl | (simp [errW_none, errW_some] <;> rfl) | (simp [*, errW_none, errW_some] <;> rfl), by (with_reducible repeat (first | apply Kd.R_alloc | apply Kd.R_drewN | apply Kd.R_drew)); exact HO_4.out, by repeat (first | (with_reducible first | exact HB.out | apply below_alloc | apply pw_below_drewN | apply below_drew1) | exact HB.out)⟩
     ·rw [if_neg c17] at H
      have c17b0 : (x5_1 == 0) = false := beq_eq_false_iff_ne.mpr c17
      have c17b1 : (x5_1 != 0) = true := bne_iff_ne.mpr c17
      simp only [Option.some.injEq, Prod.mk.injEq] at H
      obtain ⟨rfl, rfl⟩ := H
      go_wp2
      go_ret2
      exact ⟨_, by first | rfl | (simp [errW_none, errW_some] <;> rfl) | (simp [*, errW_none, errW_some] <;> rfl), by first | exact Kd.R_nil _ _ _ _ _ | exact Kd.N_nil _ _ _ _ _ | exact Kd.V_nil _ _ _ _ _ | exact Kd.Q_nil _ _ _ _ _ | exact Kd.S_nil _ _ _ _ _, by repeat (first | (with_reducible first | exact HB.out | apply below_alloc | apply pw_below_drewN | apply below_drew1) | exact HB.out)⟩
mutual
def coamingref04_Write.l0 : Nat → List Int → ByteArray → Int → Option (ByteArray)
 | 0, _, _, _ => none
 | k + 1, x0, x3, x4 => if x4 < (wrap64 (8 * (x0.length : Int))) then (coamingref04_Write.l1 k x0 x3 x4 0 x4) else (some x3)
def coamingref04_Write.l1 : Nat → List Int → ByteArray → Int → Int → Int → Option (ByteArray)
 | 0, _, _, _, _, _ => none
 | k + 1, x0, x3, x4, x5, x6 => if x6 < (wrap64 (x4 + 5)) then (if x6 < (wrap64 (8 * (x0.length : Int))) then (if 0 ≤ (wrap64 (Int.tdiv x6 8)) then (if (wrap64 (Int.tdiv x6 8)) < (x0.length : Int) then (if 0 ≤ (IntKind.u64.wrap (wrap64 (7 - (Int.tmod x6 8)))) then (if (Go.bits .and .u8 (shr .u8 (rd x0 (wrap64 (Int.tdiv x6 8))) (IntKind.u64.wrap (wrap64 (7 - (Int.tmod x6 8))))) 1) = 1 then (coamingref04_Write.l1 k x0 x3 x4 (wrap64 ((wrap64 (2 * x5)) + 1)) (wrap64 (x6 + 1))) else (coamingref04_Write.l1 k x0 x3 x4 (wrap64 (2 * x5)) (wrap64 (x6 + 1)))) else (none)) else (none)) else (none)) else (coamingref04_Write.l1 k x0 x3 x4 (wrap64 (2 * x5)) (wrap64 (x6 + 1)))) else (if 0 ≤ x5 then (if x5 ≤ (wrap64 (x5 + 1)) then (if (wrap64 (x5 + 1)) ≤ 32 then (if x3.size + ((⟨#[97, 98, 99, 100, 101, 102, 103, 104, 105, 106, 107, 108, 109, 110, 111, 112, 113, 114, 115, 116, 117, 118, 119, 120, 121, 122, 50, 51, 52, 53, 54, 55]⟩ : ByteArray).extract (x5 : Int).toNat ((wrap64 (x5 + 1)) : Int).toNat).size ≤ 9223372036854775807 then (coamingref04_Write.l0 k x0 (x3 ++ ((⟨#[97, 98, 99, 100, 101, 102, 103, 104, 105, 106, 107, 108, 109, 110, 111, 112, 113, 114, 115, 116, 117, 118, 119, 120, 121, 122, 50, 51, 52, 53, 54, 55]⟩ : ByteArray).extract (x5 : Int).toNat ((wrap64 (x5 + 1)) : Int).toNat)) (wrap64 (x4 + 5))) else (none)) else (none)) else (none)) else (none))
end
def coamingref04_Write.f (k : Nat) (l0 : List Int) : Option (ByteArray) := coamingref04_Write.l0 k l0 (⟨#[]⟩ : ByteArray) 0
set_option maxHeartbeats 8000000 in
set_option maxRecDepth 100000 in
theorem coamingref04_Write.calls (k : Nat) (A0 : Option Addr) (c0 : Nat) (l0 : List Int) (r : ByteArray) (w : World) (hr0 : Kd.C (Kd.int .u8) w A0 l0.length l0) (hc0 : l0.length ≤ c0) (h : coamingref04_Write.f k l0 = some r) :
  Calls Tryd.prog 34 #[.slice A0 l0.length c0] w fun e w' => e = .returned (.string r) ∧ Drawn0 w w' := by
 have HR0 := Aside0.mk hr0
 have HC0 := Aside0.mk hc0
 clear hr0 hc0
 have H : (coamingref04_Write.l0 k l0 (⟨#[]⟩ : ByteArray) 0) = some r := h
 clear h
 have H' := Aside0.mk H
 clear H
 go_enter Tryd.func34, Tryd.ntmps34
 go_wp2
 go_loopg [3, 4] k (fun kq v3 v4 w' => ∃ (x3_1 : ByteArray) (x4_1 : Int), v3 = .string x3_1 ∧ v4 = .int .i64 x4_1 ∧ Aside0 (coamingref04_Write.l0 kq l0 x3_1 x4_1 = some r) ∧ Aside0 (kq ≤ k) ∧ Drawn0 w w')
 case atStart => exact ⟨((⟨#[]⟩ : ByteArray)), (0), (by first | rfl | (simp; done) | (simp [*]; done)), (by first | rfl | (simp; done) | (simp [*]; done)), H', ⟨Nat.le_refl _⟩, by repeat (first | exact Drawn0.refl _ | apply Drawn0.step)⟩
 case round =>
  clear H'
  obtain ⟨x3_1, x4_1, rfl, rfl, HA, HK1, ⟨m1, rfl⟩⟩ := hrel
  cases gk with
  | zero => exact absurd HA.out (by simp [coamingref04_Write.l0])
  | succ k1 =>
   have H := HA.out
   clear HA
   simp only [coamingref04_Write.l0] at H
   by_cases c2 : x4_1 < (wrap64 (8 * (l0.length : Int)))
   ·rw [if_pos c2] at H
    have c2b0 : decide (x4_1 < (wrap64 (8 * (l0.length : Int)))) = true := decide_eq_true c2
    clear c2
    have H' := Aside0.mk H
    clear H
    go_wp2
    go_loopg [5, 6] k1 (fun kq v5 v6 w' => ∃ (x5_2 : Int) (x6_2 : Int), v5 = .int .i64 x5_2 ∧ v6 = .int .i64 x6_2 ∧ Aside0 (coamingref04_Write.l1 kq l0 x3_1 x4_1 x5_2 x6_2 = some r) ∧ Aside0 (kq ≤ k1) ∧ Drawn0 w w')
    case atStart => exact ⟨(0), (x4_1), (by first | rfl | (simp; done) | (simp [*]; done)), (by first | rfl | (simp; done) | (simp [*]; done)), H', ⟨Nat.le_refl _⟩, by repeat (first | exact Drawn0.refl _ | apply Drawn0.step)⟩
    case round =>
     clear H'
     try clear c2
     try clear c2b0
     try clear p2
     obtain ⟨x5_2, x6_2, rfl, rfl, HA, HK2, ⟨m2, rfl⟩⟩ := hrel
     cases gk with
     | zero => exact absurd HA.out (by simp [coamingref04_Write.l1])
     | succ k2 =>
      have H := HA.out
      clear HA
      simp only [coamingref04_Write.l1] at H
      by_cases c3 : x6_2 < (wrap64 (x4_1 + 5))
      ·rw [if_pos c3] at H
       have c3b0 : decide (x6_2 < (wrap64 (x4_1 + 5))) = true := decide_eq_true c3
       clear c3
       by_cases c4 : x6_2 < (wrap64 (8 * (l0.length : Int)))
       ·rw [if_pos c4] at H
        have c4b0 : decide (x6_2 < (wrap64 (8 * (l0.length : Int)))) = true := decide_eq_true c4
        clear c4
        obtain ⟨ji5, hji5⟩ : ∃ j_ : Int, (wrap64 (Int.tdiv x6_2 8)) = j_ := ⟨_, rfl⟩
        replace H : (if 0 ≤ (ji5) then (if (ji5) < (l0.length : Int) then (if 0 ≤ (IntKind.u64.wrap (wrap64 (7 - (Int.tmod x6_2 8)))) then (if (Go.bits .and .u8 (shr .u8 (rd l0 (ji5)) (IntKind.u64.wrap (wrap64 (7 - (Int.tmod x6_2 8))))) 1) = 1 then (coamingref04_Write.l1 k2 l0 x3_1 x4_1 (wrap64 ((wrap64 (2 * x5_2)) + 1)) (wrap64 (x6_2 + 1))) else (coamingref04_Write.l1 k2 l0 x3_1 x4_1 (wrap64 (2 * x5_2)) (wrap64 (x6_2 + 1)))) else (none)) else (none)) else (none)) = some r := by first | (rw [hji5] at H; exact H) | (simp only [hji5] at H ⊢; exact H)
        have hji5w : (IntKind.i64.wrap (Int.tdiv x6_2 8)) = ji5 := (i64_w _).trans hji5
        by_cases c6 : 0 ≤ (ji5)
        ·rw [if_pos c6] at H
         have c6b0 : decide (0 ≤ (ji5)) = true := decide_eq_true c6
         clear c6
         by_cases c7 : (ji5) < (l0.length : Int)
         ·rw [if_pos c7] at H
          have c7b0 : decide ((ji5) < (l0.length : Int)) = true := decide_eq_true c7
          clear c7
          obtain ⟨ji8, hji8⟩ : ∃ j_ : Int, (IntKind.u64.wrap (wrap64 (7 - (Int.tmod x6_2 8)))) = j_ := ⟨_, rfl⟩
          replace H : (if 0 ≤ (ji8) then (if (Go.bits .and .u8 (shr .u8 (rd l0 (ji5)) (ji8)) 1) = 1 then (coamingref04_Write.l1 k2 l0 x3_1 x4_1 (wrap64 ((wrap64 (2 * x5_2)) + 1)) (wrap64 (x6_2 + 1))) else (coamingref04_Write.l1 k2 l0 x3_1 x4_1 (wrap64 (2 * x5_2)) (wrap64 (x6_2 + 1)))) else (none)) = some r := by first | (rw [hji8] at H; exact H) | (simp only [hji8] at H ⊢; exact H)
          by_cases c9 : 0 ≤ (ji8)
          ·rw [if_pos c9] at H
           have c9b0 := eq_true c9
           have c9b1 : decide (0 ≤ (ji8)) = true := decide_eq_true c9
           clear c9
           obtain ⟨ji10, hji10⟩ : ∃ j_ : Int, (shr .u8 (rd l0 (ji5)) (ji8)) = j_ := ⟨_, rfl⟩
           replace H : (if (Go.bits .and .u8 (ji10) 1) = 1 then (coamingref04_Write.l1 k2 l0 x3_1 x4_1 (wrap64 ((wrap64 (2 * x5_2)) + 1)) (wrap64 (x6_2 + 1))) else (coamingref04_Write.l1 k2 l0 x3_1 x4_1 (wrap64 (2 * x5_2)) (wrap64 (x6_2 + 1)))) = some r := by first | (rw [hji10] at H; exact H) | (simp only [hji10] at H ⊢; exact H)
           have hji10_ : ((rd l0 (ji5)) / 2 ^ min (ji8).toNat 8) = ji10 := hji10
           have hji10z : (ji8) ≤ 8 → ((rd l0 (ji5)) / 2 ^ (ji8).toNat) = ji10 := shr_small hji10
           by_cases c11 : (Go.bits .and .u8 (ji10) 1) = 1
           ·rw [if_pos c11] at H
            have c11b0 : ((Go.bits .and .u8 (ji10) 1) == 1) = true := beq_iff_eq.mpr c11
            have c11b1 : ((Go.bits .and .u8 (ji10) 1) != 1) = false := bne_eq_false_iff_eq.mpr c11
            clear c11
            have H' := Aside0.mk H
            clear H
            have p178 : 0 ≤ ((ji5) : Int) := of_decide_eq_true (by first | (with_reducible assumption) | assumption)
            have q178 : (ji5) < (l0.length : Int) := of_decide_eq_true (by first | (with_reducible assumption) | assumption)
            obtain ⟨ad178, e178, hx178_0⟩ := Kd.at_int HR0.out (ji5) p178 q178
            cases e178
            replace p178 := eq_true p178
            replace q178 := eq_true q178
            go_wp2
            go_roundg k2
            case measure => have := HK1.out; have := HK2.out; omega
            case rel => exact ⟨(wrap64 ((wrap64 (2 * x5_2)) + 1)), (wrap64 (x6_2 + 1)), (by first | rfl | (simp; done) | (simp [*]; done)), (by first | rfl | (simp; done) | (simp [*]; done)), H', ⟨by have := HK1.out; have := HK2.out; omega⟩, by repeat (first | exact Drawn0.refl _ | apply Drawn0.step)⟩
           ·rw [if_neg c11] at H
            have c11b0 : ((Go.bits .and .u8 (ji10) 1) == 1) = false := beq_eq_false_iff_ne.mpr c11
            have c11b1 : ((Go.bits .and .u8 (ji10) 1) != 1) = true := bne_iff_ne.mpr c11
            have H' := Aside0.mk H
            clear H
            have p178 : 0 ≤ ((ji5) : Int) := of_decide_eq_true (by first | (with_reducible assumption) | assumption)
            have q178 : (ji5) < (l0.length : Int) := of_decide_eq_true (by first | (with_reducible assumption) | assumption)
            obtain ⟨ad178, e178, hx178_0⟩ := Kd.at_int HR0.out (ji5) p178 q178
            cases e178
            replace p178 := eq_true p178
            replace q178 := eq_true q178
            go_wp2
            go_roundg k2
            case measure => have := HK1.out; have := HK2.out; omega
            case rel => exact ⟨(wrap64 (2 * x5_2)), (wrap64 (x6_2 + 1)), (by first | rfl | (simp; done) | (simp [*]; done)), (by first | rfl | (simp; done) | (simp [*]; done)), H', ⟨by have := HK1.out; have := HK2.out; omega⟩, by repeat (first | exact Drawn0.refl _ | apply Drawn0.step)⟩
          ·rw [if_neg c9] at H
           exact absurd H (by simp)
         ·rw [if_neg c7] at H
          exact absurd H (by simp)
        ·rw [if_neg c6] at H
         exact absurd H (by simp)
       ·rw [if_neg c4] at H
        have c4b0 : decide (x6_2 < (wrap64 (8 * (l0.length : Int)))) = false := decide_eq_false c4
        clear c4
        have H' := Aside0.mk H
        clear H
        go_wp2
        go_roundg k2
        case measure => have := HK1.out; have := HK2.out; omega
        case rel => exact ⟨(wrap64 (2 * x5_2)), (wrap64 (x6_2 + 1)), (by first | rfl | (simp; done) | (simp [*]; done)), (by first | rfl | (simp; done) | (simp [*]; done)), H', ⟨by have := HK1.out; have := HK2.out; omega⟩, by repeat (first | exact Drawn0.refl _ | apply Drawn0.step)⟩
      ·rw [if_neg c3] at H
       have c3b0 : decide (x6_2 < (wrap64 (x4_1 + 5))) = false := decide_eq_false c3
       clear c3
       by_cases c12 : 0 ≤ x5_2
       ·rw [if_pos c12] at H
        have c12b0 := eq_true c12
        have c12b1 : decide (0 ≤ x5_2) = true := decide_eq_true c12
        clear c12
        by_cases c13 : x5_2 ≤ (wrap64 (x5_2 + 1))
        ·rw [if_pos c13] at H
         have c13b0 := eq_true c13
         have c13b1 : decide (x5_2 ≤ (wrap64 (x5_2 + 1))) = true := decide_eq_true c13
         by_cases c14 : (wrap64 (x5_2 + 1)) ≤ 32
         ·rw [if_pos c14] at H
          have c14b0 := eq_true c14
          have c14b1 : decide ((wrap64 (x5_2 + 1)) ≤ 32) = true := decide_eq_true c14
          by_cases c15 : x3_1.size + ((⟨#[97, 98, 99, 100, 101, 102, 103, 104, 105, 106, 107, 108, 109, 110, 111, 112, 113, 114, 115, 116, 117, 118, 119, 120, 121, 122, 50, 51, 52, 53, 54, 55]⟩ : ByteArray).extract (x5_2 : Int).toNat ((wrap64 (x5_2 + 1)) : Int).toNat).size ≤ 9223372036854775807
          ·rw [if_pos c15] at H
           have c15b0 := eq_true c15
           have c15b1 : decide (x3_1.size + ((⟨#[97, 98, 99, 100, 101, 102, 103, 104, 105, 106, 107, 108, 109, 110, 111, 112, 113, 114, 115, 116, 117, 118, 119, 120, 121, 122, 50, 51, 52, 53, 54, 55]⟩ : ByteArray).extract (x5_2 : Int).toNat ((wrap64 (x5_2 + 1)) : Int).toNat).size ≤ 9223372036854775807) = true := decide_eq_true c15
           try have c15b2 : (9223372036854775807 < x3_1.size + ((⟨#[97, 98, 99, 100, 101, 102, 103, 104, 105, 106, 107, 108, 109, 110, 111, 112, 113, 114, 115, 116, 117, 118, 119, 120, 121, 122, 50, 51, 52, 53, 54, 55]⟩ : ByteArray).extract (x5_2 : Int).toNat ((wrap64 (x5_2 + 1)) : Int).toNat).size) = False := eq_false (Nat.not_lt.2 c15)
           have H' := Aside0.mk H
           clear H
           go_wp2
           go_roundg k2
           case measure => have := HK1.out; have := HK2.out; omega
           case rel => exact ⟨(x3_1 ++ ((⟨#[97, 98, 99, 100, 101, 102, 103, 104, 105, 106, 107, 108, 109, 110, 111, 112, 113, 114, 115, 116, 117, 118, 119, 120, 121, 122, 50, 51, 52, 53, 54, 55]⟩ : ByteArray).extract (x5_2 : Int).toNat ((wrap64 (x5_2 + 1)) : Int).toNat)), (wrap64 (x4_1 + 5)), (by first | rfl | (simp; done) | (simp [*]; done)), (by first | rfl | (simp; done) | (simp [*]; done)), H', ⟨by have := HK1.out; have := HK2.out; omega⟩, by repeat (first | exact Drawn0.refl _ | apply Drawn0.step)⟩
          ·rw [if_neg c15] at H
           exact absurd H (by simp)
         ·rw [if_neg c14] at H
          exact absurd H (by simp)
        ·rw [if_neg c13] at H
         exact absurd H (by simp)
       ·rw [if_neg c12] at H
        exact absurd H (by simp)
   ·rw [if_neg c2] at H
    have c2b0 : decide (x4_1 < (wrap64 (8 * (l0.length : Int)))) = false := decide_eq_false c2
    clear c2
    obtain rfl := Option.some.inj H
    go_wp2
    go_ret
    exact ⟨by first | rfl | (simp; done) | (simp [*]; done), by repeat (first | exact Drawn0.refl _ | apply Drawn0.step)⟩
def pass_read.f (k : Nat) (a0 : ByteArray) : Option (List Int × Bool) := (spell_Read.f k a0).bind fun bt179 => (if bt179.2 = 0 then (if (bt179.1.length : Int) = 50 then (if 0 < (bt179.1.length : Int) then (if (rd bt179.1 0) = 1 then (if 17 < (bt179.1.length : Int) then (some (bt179.1, decide ((rd bt179.1 17) ≤ 1))) else (none)) else (some (bt179.1, false))) else (none)) else (some (bt179.1, false))) else (some (bt179.1, false)))
set_option maxHeartbeats 8000000 in
set_option maxRecDepth 100000 in
theorem pass_read.calls (k : Nat) (a0 : ByteArray) (r1 : List Int) (r2 : Bool) (w : World) (h : pass_read.f k a0 = some (r1, r2)) :
  Calls Tryd.prog 42 #[.string a0] w fun e w' => ∃ v0_ : Value, e = .returned (.tuple #[v0_, .bool r2]) ∧ Kd.R (Kd.int .u8) 5 w' w.heap.size (fun _ => True) v0_ r1 ∧ Below w.heap.size w w' := by
 have HB := Aside0.mk (Below.refl w.heap.size w)
 have H : ((spell_Read.f k a0).bind fun bt179 => (if bt179.2 = 0 then (if (bt179.1.length : Int) = 50 then (if 0 < (bt179.1.length : Int) then (if (rd bt179.1 0) = 1 then (if 17 < (bt179.1.length : Int) then (some (bt179.1, decide ((rd bt179.1 17) ≤ 1))) else (none)) else (some (bt179.1, false))) else (none)) else (some (bt179.1, false))) else (some (bt179.1, false)))) = some (r1, r2) := h
 clear h
 replace H := Option.bind_eq_some_iff.mp H
 obtain ⟨⟨t179, t180⟩, A20, H⟩ := H
 replace H : (if t180 = 0 then (if (t179.length : Int) = 50 then (if 0 < (t179.length : Int) then (if (rd t179 0) = 1 then (if 17 < (t179.length : Int) then (some (t179, decide ((rd t179 17) ≤ 1))) else (none)) else (some (t179, false))) else (none)) else (some (t179, false))) else (some (t179, false))) = some (r1, r2) := H
 have A2 := Aside0.mk A20
 clear A20
 by_cases c3 : t180 = 0
 ·rw [if_pos c3] at H
  have c3b0 : (t180 == 0) = true := beq_iff_eq.mpr c3
  have c3b1 : (t180 != 0) = false := bne_eq_false_iff_eq.mpr c3
  clear c3
  by_cases c4 : (t179.length : Int) = 50
  ·rw [if_pos c4] at H
   have c4b0 : ((t179.length : Int) == 50) = true := beq_iff_eq.mpr c4
   have c4b1 : ((t179.length : Int) != 50) = false := bne_eq_false_iff_eq.mpr c4
   clear c4
   by_cases c5 : 0 < (t179.length : Int)
   ·rw [if_pos c5] at H
    have c5b0 : decide (0 < (t179.length : Int)) = true := decide_eq_true c5
    have c5b1 : decide (0 < t179.length) = true := decide_eq_true (by omega)
    clear c5
    by_cases c6 : (rd t179 0) = 1
    ·rw [if_pos c6] at H
     have c6b0 : ((rd t179 0) == 1) = true := beq_iff_eq.mpr c6
     have c6b1 : ((rd t179 0) != 1) = false := bne_eq_false_iff_eq.mpr c6
     clear c6
     by_cases c7 : 17 < (t179.length : Int)
     ·rw [if_pos c7] at H
      have c7b0 : decide (17 < (t179.length : Int)) = true := decide_eq_true c7
      have c7b1 : decide (17 < t179.length) = true := decide_eq_true (by omega)
      clear c7
      simp only [Option.some.injEq, Prod.mk.injEq] at H
      obtain ⟨rfl, rfl⟩ := H
      go_enter Tryd.func42, Tryd.ntmps42
      go_wp2_with (first | (go_at_call 57; (with_reducible refine (spell_Read.calls k a0 t179 t180 _ A2.out).mono ?_); rintro e w8 ⟨v181, rfl, ho0, hb⟩; have n0_ := Aside0.mk (Kd.R_lower ho0 (below_size (by repeat (first | (with_reducible first | exact HB.out | apply below_alloc | apply pw_below_drewN | apply below_drew1) | exact HB.out)))); have n1_ := Aside0.mk (below_step (by repeat (first | (with_reducible first | exact HB.out | apply below_alloc | apply pw_below_drewN | apply below_drew1) | exact HB.out)) hb); clear HB; have HO182 := n0_; have HB := n1_; clear n0_ n1_; (try clear hb); (try clear hb2); (try clear hk); (try clear hi); (try clear ho0); obtain ⟨Ao9, co9, eo9⟩ := Kd.R_slice HO182.out; subst eo9; have p183 : 0 ≤ (0 : Int) := (by omega); have q183 : 0 < (t179.length : Int) := of_decide_eq_true (by first | (with_reducible assumption) | assumption); obtain ⟨ad183, e183, hx183_0⟩ := Kd.at_int (Kd.R_reads' HO182.out).2.2 0 p183 q183; cases e183; have qi183 : (0 < t179.length) = True := eq_true (by omega); (try rw [show ((0 : Int)).toNat = 0 from rfl] at hx183_0); (try rw [Addr.add_zero'] at hx183_0); replace p183 := eq_true p183; replace q183 := eq_true q183; have p184 : 0 ≤ (17 : Int) := (by omega); have q184 : 17 < (t179.length : Int) := of_decide_eq_true (by first | (with_reducible assumption) | assumption); obtain ⟨ad184, e184, hx184_0⟩ := Kd.at_int (Kd.R_reads' HO182.out).2.2 17 p184 q184; obtain rfl : ad183 = ad184 := (by injection e184); (try simp only [show (17 : Int).toNat = 17 from rfl, Nat.reduceMul, Nat.reduceEqDiff, Go.Addr.add, ↓reduceIte] at hx184_0); have qi184 : (17 < t179.length) = True := eq_true (by omega); (try rw [show ((17 : Int)).toNat = 17 from rfl] at hx184_0); replace p184 := eq_true p184; replace q184 := eq_true q184))
      repeat (go_quiet (first | (go_at_call 57; (with_reducible refine (spell_Read.calls k a0 t179 t180 _ A2.out).mono ?_); rintro e w8 ⟨v181, rfl, ho0, hb⟩; have n0_ := Aside0.mk (Kd.R_lower ho0 (below_size (by repeat (first | (with_reducible first | exact HB.out | apply below_alloc | apply pw_below_drewN | apply below_drew1) | exact HB.out)))); have n1_ := Aside0.mk (below_step (by repeat (first | (with_reducible first | exact HB.out | apply below_alloc | apply pw_below_drewN | apply below_drew1) | exact HB.out)) hb); clear HB; have HO182 := n0_; have HB := n1_; clear n0_ n1_; (try clear hb); (try clear hb2); (try clear hk); (try clear hi); (try clear ho0); obtain ⟨Ao9, co9, eo9⟩ := Kd.R_slice HO182.out; subst eo9; have p183 : 0 ≤ (0 : Int) := (by omega); have q183 : 0 < (t179.length : Int) := of_decide_eq_true (by first | (with_reducible assumption) | assumption); obtain ⟨ad183, e183, hx183_0⟩ := Kd.at_int (Kd.R_reads' HO182.out).2.2 0 p183 q183; cases e183; have qi183 : (0 < t179.length) = True := eq_true (by omega); (try rw [show ((0 : Int)).toNat = 0 from rfl] at hx183_0); (try rw [Addr.add_zero'] at hx183_0); replace p183 := eq_true p183; replace q183 := eq_true q183; have p184 : 0 ≤ (17 : Int) := (by omega); have q184 : 17 < (t179.length : Int) := of_decide_eq_true (by first | (with_reducible assumption) | assumption); obtain ⟨ad184, e184, hx184_0⟩ := Kd.at_int (Kd.R_reads' HO182.out).2.2 17 p184 q184; obtain rfl : ad183 = ad184 := (by injection e184); (try simp only [show (17 : Int).toNat = 17 from rfl, Nat.reduceMul, Nat.reduceEqDiff, Go.Addr.add, ↓reduceIte] at hx184_0); have qi184 : (17 < t179.length) = True := eq_true (by omega); (try rw [show ((17 : Int)).toNat = 17 from rfl] at hx184_0); replace p184 := eq_true p184; replace q184 := eq_true q184)); try go_wp2_with (first | (go_at_call 57; (with_reducible refine (spell_Read.calls k a0 t179 t180 _ A2.out).mono ?_); rintro e w8 ⟨v181, rfl, ho0, hb⟩; have n0_ := Aside0.mk (Kd.R_lower ho0 (below_size (by repeat (first | (with_reducible first | exact HB.out | apply below_alloc | apply pw_below_drewN | apply below_drew1) | exact HB.out)))); have n1_ := Aside0.mk (below_step (by repeat (first | (with_reducible first | exact HB.out | apply below_alloc | apply pw_below_drewN | apply below_drew1) | exact HB.out)) hb); clear HB; have HO182 := n0_; have HB := n1_; clear n0_ n1_; (try clear hb); (try clear hb2); (try clear hk); (try clear hi); (try clear ho0); obtain ⟨Ao9, co9, eo9⟩ := Kd.R_slice HO182.out; subst eo9; have p183 : 0 ≤ (0 : Int) := (by omega); have q183 : 0 < (t179.length : Int) := of_decide_eq_true (by first | (with_reducible assumption) | assumption); obtain ⟨ad183, e183, hx183_0⟩ := Kd.at_int (Kd.R_reads' HO182.out).2.2 0 p183 q183; cases e183; have qi183 : (0 < t179.length) = True := eq_true (by omega); (try rw [show ((0 : Int)).toNat = 0 from rfl] at hx183_0); (try rw [Addr.add_zero'] at hx183_0); replace p183 := eq_true p183; replace q183 := eq_true q183; have p184 : 0 ≤ (17 : Int) := (by omega); have q184 : 17 < (t179.length : Int) := of_decide_eq_true (by first | (with_reducible assumption) | assumption); obtain ⟨ad184, e184, hx184_0⟩ := Kd.at_int (Kd.R_reads' HO182.out).2.2 17 p184 q184; obtain rfl : ad183 = ad184 := (by injection e184); (try simp only [show (17 : Int).toNat = 17 from rfl, Nat.reduceMul, Nat.reduceEqDiff, Go.Addr.add, ↓reduceIte] at hx184_0); have qi184 : (17 < t179.length) = True := eq_true (by omega); (try rw [show ((17 : Int)).toNat = 17 from rfl] at hx184_0); replace p184 := eq_true p184; replace q184 := eq_true q184)))
      go_ret2
      exact ⟨_, by first | rfl | (simp [errW_none, errW_some] <;> rfl) | (simp [*, errW_none, errW_some] <;> rfl), by (with_reducible repeat (first | apply Kd.R_alloc | apply Kd.R_drewN | apply Kd.R_drew)); exact HO182.out, by repeat (first | (with_reducible first | exact HB.out | apply below_alloc | apply pw_below_drewN | apply below_drew1) | exact HB.out)⟩
     ·rw [if_neg c7] at H
      exact absurd H (by simp)
    ·rw [if_neg c6] at H
     have c6b0 : ((rd t179 0) == 1) = false := beq_eq_false_iff_ne.mpr c6
     have c6b1 : ((rd t179 0) != 1) = true := bne_iff_ne.mpr c6
     simp only [Option.some.injEq, Prod.mk.injEq] at H
     obtain ⟨rfl, rfl⟩ := H
     go_enter Tryd.func42, Tryd.ntmps42
     go_wp2_with (first | (go_at_call 57; (with_reducible refine (spell_Read.calls k a0 t179 t180 _ A2.out).mono ?_); rintro e w10 ⟨v181, rfl, ho0, hb⟩; have n0_ := Aside0.mk (Kd.R_lower ho0 (below_size (by repeat (first | (with_reducible first | exact HB.out | apply below_alloc | apply pw_below_drewN | apply below_drew1) | exact HB.out)))); have n1_ := Aside0.mk (below_step (by repeat (first | (with_reducible first | exact HB.out | apply below_alloc | apply pw_below_drewN | apply below_drew1) | exact HB.out)) hb); clear HB; have HO182 := n0_; have HB := n1_; clear n0_ n1_; (try clear hb); (try clear hb2); (try clear hk); (try clear hi); (try clear ho0); obtain ⟨Ao11, co11, eo11⟩ := Kd.R_slice HO182.out; subst eo11; have p183 : 0 ≤ (0 : Int) := (by omega); have q183 : 0 < (t179.length : Int) := of_decide_eq_true (by first | (with_reducible assumption) | assumption); obtain ⟨ad183, e183, hx183_0⟩ := Kd.at_int (Kd.R_reads' HO182.out).2.2 0 p183 q183; cases e183; have qi183 : (0 < t179.length) = True := eq_true (by omega); (try rw [show ((0 : Int)).toNat = 0 from rfl] at hx183_0); (try rw [Addr.add_zero'] at hx183_0); replace p183 := eq_true p183; replace q183 := eq_true q183))
     repeat (go_quiet (first | (go_at_call 57; (with_reducible refine (spell_Read.calls k a0 t179 t180 _ A2.out).mono ?_); rintro e w10 ⟨v181, rfl, ho0, hb⟩; have n0_ := Aside0.mk (Kd.R_lower ho0 (below_size (by repeat (first | (with_reducible first | exact HB.out | apply below_alloc | apply pw_below_drewN | apply below_drew1) | exact HB.out)))); have n1_ := Aside0.mk (below_step (by repeat (first | (with_reducible first | exact HB.out | apply below_alloc | apply pw_below_drewN | apply below_drew1) | exact HB.out)) hb); clear HB; have HO182 := n0_; have HB := n1_; clear n0_ n1_; (try clear hb); (try clear hb2); (try clear hk); (try clear hi); (try clear ho0); obtain ⟨Ao11, co11, eo11⟩ := Kd.R_slice HO182.out; subst eo11; have p183 : 0 ≤ (0 : Int) := (by omega); have q183 : 0 < (t179.length : Int) := of_decide_eq_true (by first | (with_reducible assumption) | assumption); obtain ⟨ad183, e183, hx183_0⟩ := Kd.at_int (Kd.R_reads' HO182.out).2.2 0 p183 q183; cases e183; have qi183 : (0 < t179.length) = True := eq_true (by omega); (try rw [show ((0 : Int)).toNat = 0 from rfl] at hx183_0); (try rw [Addr.add_zero'] at hx183_0); replace p183 := eq_true p183; replace q183 := eq_true q183)); try go_wp2_with (first | (go_at_call 57; (with_reducible refine (spell_Read.calls k a0 t179 t180 _ A2.out).mono ?_); rintro e w10 ⟨v181, rfl, ho0, hb⟩; have n0_ := Aside0.mk (Kd.R_lower ho0 (below_size (by repeat (first | (with_reducible first | exact HB.out | apply below_alloc | apply pw_below_drewN | apply below_drew1) | exact HB.out)))); have n1_ := Aside0.mk (below_step (by repeat (first | (with_reducible first | exact HB.out | apply below_alloc | apply pw_below_drewN | apply below_drew1) | exact HB.out)) hb); clear HB; have HO182 := n0_; have HB := n1_; clear n0_ n1_; (try clear hb); (try clear hb2); (try clear hk); (try clear hi); (try clear ho0); obtain ⟨Ao11, co11, eo11⟩ := Kd.R_slice HO182.out; subst eo11; have p183 : 0 ≤ (0 : Int) := (by omega); have q183 : 0 < (t179.length : Int) := of_decide_eq_true (by first | (with_reducible assumption) | assumption); obtain ⟨ad183, e183, hx183_0⟩ := Kd.at_int (Kd.R_reads' HO182.out).2.2 0 p183 q183; cases e183; have qi183 : (0 < t179.length) = True := eq_true (by omega); (try rw [show ((0 : Int)).toNat = 0 from rfl] at hx183_0); (try rw [Addr.add_zero'] at hx183_0); replace p183 := eq_true p183; replace q183 := eq_true q183)))
     go_ret2
     exact ⟨_, by first | rfl | (simp [errW_none, errW_some] <;> rfl) | (simp [*, errW_none, errW_some] <;> rfl), by (with_reducible repeat (first | apply Kd.R_alloc | apply Kd.R_drewN | apply Kd.R_drew)); exact HO182.out, by repeat (first | (with_reducible first | exact HB.out | apply below_alloc | apply pw_below_drewN | apply below_drew1) | exact HB.out)⟩
   ·rw [if_neg c5] at H
    exact absurd H (by simp)
  ·rw [if_neg c4] at H
   have c4b0 : ((t179.length : Int) == 50) = false := beq_eq_false_iff_ne.mpr c4
   have c4b1 : ((t179.length : Int) != 50) = true := bne_iff_ne.mpr c4
   simp only [Option.some.injEq, Prod.mk.injEq] at H
   obtain ⟨rfl, rfl⟩ := H
   go_enter Tryd.func42, Tryd.ntmps42
   go_wp2_with (first | (go_at_call 57; (with_reducible refine (spell_Read.calls k a0 t179 t180 _ A2.out).mono ?_); rintro e w12 ⟨v181, rfl, ho0, hb⟩; have n0_ := Aside0.mk (Kd.R_lower ho0 (below_size (by repeat (first | (with_reducible first | exact HB.out | apply below_alloc | apply pw_below_drewN | apply below_drew1) | exact HB.out)))); have n1_ := Aside0.mk (below_step (by repeat (first | (with_reducible first | exact HB.out | apply below_alloc | apply pw_below_drewN | apply below_drew1) | exact HB.out)) hb); clear HB; have HO182 := n0_; have HB := n1_; clear n0_ n1_; (try clear hb); (try clear hb2); (try clear hk); (try clear hi); (try clear ho0); obtain ⟨Ao13, co13, eo13⟩ := Kd.R_slice HO182.out; subst eo13))
   repeat (go_quiet (first | (go_at_call 57; (with_reducible refine (spell_Read.calls k a0 t179 t180 _ A2.out).mono ?_); rintro e w12 ⟨v181, rfl, ho0, hb⟩; have n0_ := Aside0.mk (Kd.R_lower ho0 (below_size (by repeat (first | (with_reducible first | exact HB.out | apply below_alloc | apply pw_below_drewN | apply below_drew1) | exact HB.out)))); have n1_ := Aside0.mk (below_step (by repeat (first | (with_reducible first | exact HB.out | apply below_alloc | apply pw_below_drewN | apply below_drew1) | exact HB.out)) hb); clear HB; have HO182 := n0_; have HB := n1_; clear n0_ n1_; (try clear hb); (try clear hb2); (try clear hk); (try clear hi); (try clear ho0); obtain ⟨Ao13, co13, eo13⟩ := Kd.R_slice HO182.out; subst eo13)); try go_wp2_with (first | (go_at_call 57; (with_reducible refine (spell_Read.calls k a0 t179 t180 _ A2.out).mono ?_); rintro e w12 ⟨v181, rfl, ho0, hb⟩; have n0_ := Aside0.mk (Kd.R_lower ho0 (below_size (by repeat (first | (with_reducible first | exact HB.out | apply below_alloc | apply pw_below_drewN | apply below_drew1) | exact HB.out)))); have n1_ := Aside0.mk (below_step (by repeat (first | (with_reducible first | exact HB.out | apply below_alloc | apply pw_below_drewN | apply below_drew1) | exact HB.out)) hb); clear HB; have HO182 := n0_; have HB := n1_; clear n0_ n1_; (try clear hb); (try clear hb2); (try clear hk); (try clear hi); (try clear ho0); obtain ⟨Ao13, co13, eo13⟩ := Kd.R_slice HO182.out; subst eo13)))
   go_ret2
   exact ⟨_, by first | rfl | (simp [errW_none, errW_some] <;> rfl) | (simp [*, errW_none, errW_some] <;> rfl), by (with_reducible repeat (first | apply Kd.R_alloc | apply Kd.R_drewN | apply Kd.R_drew)); exact HO182.out, by repeat (first | (with_reducible first | exact HB.out | apply below_alloc | apply pw_below_drewN | apply below_drew1) | exact HB.out)⟩
 ·rw [if_neg c3] at H
  have c3b0 : (t180 == 0) = false := beq_eq_false_iff_ne.mpr c3
  have c3b1 : (t180 != 0) = true := bne_iff_ne.mpr c3
  simp only [Option.some.injEq, Prod.mk.injEq] at H
  obtain ⟨rfl, rfl⟩ := H
  go_enter Tryd.func42, Tryd.ntmps42
  go_wp2_with (first | (go_at_call 57; (with_reducible refine (spell_Read.calls k a0 t179 t180 _ A2.out).mono ?_); rintro e w14 ⟨v181, rfl, ho0, hb⟩; have n0_ := Aside0.mk (Kd.R_lower ho0 (below_size (by repeat (first | (with_reducible first | exact HB.out | apply below_alloc | apply pw_below_drewN | apply below_drew1) | exact HB.out)))); have n1_ := Aside0.mk (below_step (by repeat (first | (with_reducible first | exact HB.out | apply below_alloc | apply pw_below_drewN | apply below_drew1) | exact HB.out)) hb); clear HB; have HO182 := n0_; have HB := n1_; clear n0_ n1_; (try clear hb); (try clear hb2); (try clear hk); (try clear hi); (try clear ho0)))
  repeat (go_quiet (first | (go_at_call 57; (with_reducible refine (spell_Read.calls k a0 t179 t180 _ A2.out).mono ?_); rintro e w14 ⟨v181, rfl, ho0, hb⟩; have n0_ := Aside0.mk (Kd.R_lower ho0 (below_size (by repeat (first | (with_reducible first | exact HB.out | apply below_alloc | apply pw_below_drewN | apply below_drew1) | exact HB.out)))); have n1_ := Aside0.mk (below_step (by repeat (first | (with_reducible first | exact HB.out | apply below_alloc | apply pw_below_drewN | apply below_drew1) | exact HB.out)) hb); clear HB; have HO182 := n0_; have HB := n1_; clear n0_ n1_; (try clear hb); (try clear hb2); (try clear hk); (try clear hi); (try clear ho0))); try go_wp2_with (first | (go_at_call 57; (with_reducible refine (spell_Read.calls k a0 t179 t180 _ A2.out).mono ?_); rintro e w14 ⟨v181, rfl, ho0, hb⟩; have n0_ := Aside0.mk (Kd.R_lower ho0 (below_size (by repeat (first | (with_reducible first | exact HB.out | apply below_alloc | apply pw_below_drewN | apply below_drew1) | exact HB.out)))); have n1_ := Aside0.mk (below_step (by repeat (first | (with_reducible first | exact HB.out | apply below_alloc | apply pw_below_drewN | apply below_drew1) | exact HB.out)) hb); clear HB; have HO182 := n0_; have HB := n1_; clear n0_ n1_; (try clear hb); (try clear hb2); (try clear hk); (try clear hi); (try clear ho0))))
  go_ret2
  exact ⟨_, by first | rfl | (simp [errW_none, errW_some] <;> rfl) | (simp [*, errW_none, errW_some] <;> rfl), by (with_reducible repeat (first | apply Kd.R_alloc | apply Kd.R_drewN | apply Kd.R_drew)); exact HO182.out, by repeat (first | (with_reducible first | exact HB.out | apply below_alloc | apply pw_below_drewN | apply below_drew1) | exact HB.out)⟩
def pass_number.l0 : Nat → Int → List Int → Int → Int → Option (Int)
 | 0, _, _, _, _ => none
 | k + 1, x2, x5, x6, x7 => if x7 < x6 then (if 0 ≤ x7 then (if x7 < (x5.length : Int) then (pass_number.l0 k (Go.bits .or .u64 (IntKind.u64.wrap (x2 * 256)) (IntKind.u64.wrap (rd x5 x7))) x5 x6 (wrap64 (x7 + 1))) else (none)) else (none)) else (some x2)
def pass_number.f (k : Nat) (l0 : List Int) : Option (Int) := pass_number.l0 k 0 l0 (l0.length : Int) 0
set_option maxHeartbeats 8000000 in
set_option maxRecDepth 100000 in
theorem pass_number.calls (k : Nat) (A0 : Option Addr) (c0 : Nat) (l0 : List Int) (r : Int) (w : World) (hr0 : Kd.C (Kd.int .u8) w A0 l0.length l0) (hc0 : l0.length ≤ c0) (h : pass_number.f k l0 = some r) :
  Calls Tryd.prog 58 #[.slice A0 l0.length c0] w fun e w' => e = .returned (.int .u64 r) ∧ Drawn0 w w' := by
 have HR0 := Aside0.mk hr0
 have HC0 := Aside0.mk hc0
 clear hr0 hc0
 have H : (pass_number.l0 k 0 l0 (l0.length : Int) 0) = some r := h
 clear h
 have H' := Aside0.mk H
 clear H
 go_enter Tryd.func58, Tryd.ntmps58
 go_wp2
 go_loopg [2, 7] k (fun kq v2 v7 w' => ∃ (x2_1 : Int) (x7_1 : Int), v2 = .int .u64 x2_1 ∧ v7 = .int .i64 x7_1 ∧ Aside0 (pass_number.l0 kq x2_1 l0 (l0.length : Int) x7_1 = some r) ∧ Aside0 (kq ≤ k) ∧ Drawn0 w w')
 case atStart => exact ⟨(0), (0), (by first | rfl | (simp; done) | (simp [*]; done)), (by first | rfl | (simp; done) | (simp [*]; done)), H', ⟨Nat.le_refl _⟩, by repeat (first | exact Drawn0.refl _ | apply Drawn0.step)⟩
 case round =>
  clear H'
  obtain ⟨x2_1, x7_1, rfl, rfl, HA, HK1, ⟨m1, rfl⟩⟩ := hrel
  cases gk with
  | zero => exact absurd HA.out (by simp [pass_number.l0])
  | succ k1 =>
   have H := HA.out
   clear HA
   simp only [pass_number.l0] at H
   by_cases c2 : x7_1 < (l0.length : Int)
   ·rw [if_pos c2] at H
    have c2b0 : decide (x7_1 < (l0.length : Int)) = true := decide_eq_true c2
    clear c2
    by_cases c3 : 0 ≤ x7_1
    ·rw [if_pos c3] at H
     have c3b0 : decide (0 ≤ x7_1) = true := decide_eq_true c3
     clear c3
     by_cases c4 : x7_1 < (l0.length : Int)
     ·rw [if_pos c4] at H
      have c4b0 : decide (x7_1 < (l0.length : Int)) = true := decide_eq_true c4
      clear c4
      have H' := Aside0.mk H
      clear H
      have p185 : 0 ≤ (x7_1 : Int) := of_decide_eq_true (by first | (with_reducible assumption) | assumption)
      have q185 : x7_1 < (l0.length : Int) := of_decide_eq_true (by first | (with_reducible assumption) | assumption)
      obtain ⟨ad185, e185, hx185_0⟩ := Kd.at_int HR0.out x7_1 p185 q185
      cases e185
      replace p185 := eq_true p185
      replace q185 := eq_true q185
      go_wp2
      go_roundg k1
      case measure => have := HK1.out; omega
      case rel => exact ⟨(Go.bits .or .u64 (IntKind.u64.wrap (x2_1 * 256)) (IntKind.u64.wrap (rd l0 x7_1))), (wrap64 (x7_1 + 1)), (by first | rfl | (simp; done) | (simp [*]; done)), (by first | rfl | (simp; done) | (simp [*]; done)), H', ⟨by have := HK1.out; omega⟩, by repeat (first | exact Drawn0.refl _ | apply Drawn0.step)⟩
     ·rw [if_neg c4] at H
      exact absurd H (by simp)
    ·rw [if_neg c3] at H
     exact absurd H (by simp)
   ·rw [if_neg c2] at H
    have c2b0 : decide (x7_1 < (l0.length : Int)) = false := decide_eq_false c2
    clear c2
    obtain rfl := Option.some.inj H
    go_wp2
    go_ret
    exact ⟨by first | rfl | (simp; done) | (simp [*]; done), by repeat (first | exact Drawn0.refl _ | apply Drawn0.step)⟩
end Go.Proofs.YtgljicdpcapgnaaDoor.PBase
namespace Go.Proofs.YtgljicdpcapgnaaDoor.PBase
open Go.RowKit Go.Proofs.YtgljicdpcapgnaaDoorW.PrintWords Go.Proofs.YtgljicdpcapgnaaDoorW.PrintLast Go.Proofs.YtgljicdpcapgnaaDoorW.PrintMore
attribute [local go_sem] max2_int min2_int max_two min_two max_three min_three max_four min_four   -- for this text's walks alone
set_option linter.unusedVariables false
set_option linter.unusedSimpArgs false
def pass_token.f (k : Nat) (l0 : List Int) : Option (Int × Int × Bool × Int) := if 1 ≤ 5 then (if 5 ≤ (l0.length : Int) then ((pass_number.f k ((l0.take 5).drop 1)).bind fun t188 => (if 5 ≤ 9 then (if 9 ≤ (l0.length : Int) then ((pass_number.f k ((l0.take 9).drop 5)).bind fun t190 => (if 9 ≤ 17 then (if 17 ≤ (l0.length : Int) then ((pass_number.f k ((l0.take 17).drop 9)).bind fun t192 => (if 17 < (l0.length : Int) then (some ((t188) % 4294967296, (t190) % 4294967296, ((rd l0 17) == 1), t192)) else (none))) else (none)) else (none))) else (none)) else (none))) else (none)) else (none)
def pass_token.T1 : Bool × List (List Nat × List Nat) := (true, [([], []), ([0], [0]), ([1], [1]), ([2], [2]), ([], []), ([4], [4]), ([5, 2], [5]), ([6], [6]), ([], []), ([8], [8]), ([9, 6], [9]), ([], []), ([11], [11]), ([12], [12]), ([13], [13]), ([3, 7, 10, 14], [3, 7, 10, 14]), ([15, 10, 0, 1, 2, 3, 4, 5, 6, 7, 8, 9, 10, 11, 12, 13, 14, 15], [15])])
def pass_token.B1 : List Nat := [0, 1, 3, 7, 0, 16, 55, 119, 0, 256, 887, 0, 2048, 6144, 14336, 32767, 65535]
theorem pass_token.tab1 : rtab .any (opsOf Tryd.f43 1) = pass_token.T1 := by kernel_rfl
theorem pass_token.bits1 : waitsOk pass_token.T1.2 pass_token.B1 = true := by kernel_rfl
set_option maxHeartbeats 8000000 in
set_option maxRecDepth 100000 in
theorem pass_token.calls (k : Nat) (A0 : Option Addr) (c0 : Nat) (l0 : List Int) (r1 : Int) (r2 : Int) (r3 : Bool) (r4 : Int) (w : World) (hr0 : Kd.C (Kd.int .u8) w A0 l0.length l0) (hc0 : l0.length ≤ c0) (h : pass_token.f k l0 = some (r1, r2, r3, r4)) :
  Calls Tryd.prog 43 #[.slice A0 l0.length c0] w fun e w' => e = .returned (.agg #[.int .u32 r1, .int .u32 r2, .bool r3, .int .u64 r4]) ∧ Below w.heap.size w w' := by
 have hu55 := Tryd.underlying55
 have HR0 := Aside0.mk hr0
 have HC0 := Aside0.mk hc0
 clear hr0 hc0
 have HB := Aside0.mk (Below.refl w.heap.size w)
 have H : (if 1 ≤ 5 then (if 5 ≤ (l0.length : Int) then ((pass_number.f k ((l0.take 5).drop 1)).bind fun t188 => (if 5 ≤ 9 then (if 9 ≤ (l0.length : Int) then ((pass_number.f k ((l0.take 9).drop 5)).bind fun t190 => (if 9 ≤ 17 then (if 17 ≤ (l0.length : Int) then ((pass_number.f k ((l0.take 17).drop 9)).bind fun t192 => (if 17 < (l0.length : Int) then (some ((t188) % 4294967296, (t190) % 4294967296, ((rd l0 17) == 1), t192)) else (none))) else (none)) else (none))) else (none)) else (none))) else (none)) else (none)) = some (r1, r2, r3, r4) := h
 clear h
 by_cases c2 : 1 ≤ 5
 ·rw [if_pos c2] at H
  have c2b0 := eq_true c2
  have c2b1 : decide (1 ≤ 5) = true := decide_eq_true c2
  clear c2
  by_cases c3 : 5 ≤ (l0.length : Int)
  ·rw [if_pos c3] at H
   have c3b0 := eq_true c3
   have c3b1 : decide (5 ≤ (l0.length : Int)) = true := decide_eq_true c3
   clear c3
   replace H := Option.bind_eq_some_iff.mp H
   obtain ⟨t188, A40, H⟩ := H
   replace H : (if 5 ≤ 9 then (if 9 ≤ (l0.length : Int) then ((pass_number.f k ((l0.take 9).drop 5)).bind fun t190 => (if 9 ≤ 17 then (if 17 ≤ (l0.length : Int) then ((pass_number.f k ((l0.take 17).drop 9)).bind fun t192 => (if 17 < (l0.length : Int) then (some ((t188) % 4294967296, (t190) % 4294967296, ((rd l0 17) == 1), t192)) else (none))) else (none)) else (none))) else (none)) else (none)) = some (r1, r2, r3, r4) := H
   have A4 := Aside0.mk A40
   clear A40
   by_cases c5 : 5 ≤ 9
   ·rw [if_pos c5] at H
    have c5b0 := eq_true c5
    have c5b1 : decide (5 ≤ 9) = true := decide_eq_true c5
    clear c5
    by_cases c6 : 9 ≤ (l0.length : Int)
    ·rw [if_pos c6] at H
     have c6b0 := eq_true c6
     have c6b1 : decide (9 ≤ (l0.length : Int)) = true := decide_eq_true c6
     clear c6
     replace H := Option.bind_eq_some_iff.mp H
     obtain ⟨t190, A70, H⟩ := H
     replace H : (if 9 ≤ 17 then (if 17 ≤ (l0.length : Int) then ((pass_number.f k ((l0.take 17).drop 9)).bind fun t192 => (if 17 < (l0.length : Int) then (some ((t188) % 4294967296, (t190) % 4294967296, ((rd l0 17) == 1), t192)) else (none))) else (none)) else (none)) = some (r1, r2, r3, r4) := H
     have A7 := Aside0.mk A70
     clear A70
     by_cases c8 : 9 ≤ 17
     ·rw [if_pos c8] at H
      have c8b0 := eq_true c8
      have c8b1 : decide (9 ≤ 17) = true := decide_eq_true c8
      clear c8
      by_cases c9 : 17 ≤ (l0.length : Int)
      ·rw [if_pos c9] at H
       have c9b0 := eq_true c9
       have c9b1 : decide (17 ≤ (l0.length : Int)) = true := decide_eq_true c9
       clear c9
       replace H := Option.bind_eq_some_iff.mp H
       obtain ⟨t192, A100, H⟩ := H
       replace H : (if 17 < (l0.length : Int) then (some ((t188) % 4294967296, (t190) % 4294967296, ((rd l0 17) == 1), t192)) else (none)) = some (r1, r2, r3, r4) := H
       have A10 := Aside0.mk A100
       clear A100
       by_cases c11 : 17 < (l0.length : Int)
       ·rw [if_pos c11] at H
        have c11b0 : decide (17 < (l0.length : Int)) = true := decide_eq_true c11
        have c11b1 : decide (17 < l0.length) = true := decide_eq_true (by omega)
        clear c11
        simp only [Option.some.injEq, Prod.mk.injEq] at H
        obtain ⟨rfl, rfl, rfl, rfl⟩ := H
        go_enter Tryd.func43, Tryd.ntmps43
        try go_wp2_with (first | ((with_reducible refine gate_dst (N := 2) rfl ?_); refine box_event ?hg (N := 2) ?hd (cs := #[.int .u32 0, .int .u32 0, .bool false, .int .u64 0]) (t := 55) ?hr ?_; (case hd => rfl); (case hg => rfl); (case hr => first | (go_simp; done) | (go_simp; rfl) | (go_simp; simp only [IntKind.wrap_u32, Int.emod_add_emod, Int.add_emod_emod])); intro gb186 hg w12 hbox hb; have n0_ := Aside0.mk (below_step (by repeat (first | (with_reducible first | exact HB.out | apply below_alloc | apply pw_below_drewN | apply below_drew1) | exact HB.out)) hb); have n1_ := Aside0.mk (hbox); have n2_ := Aside0.mk ((by rw [hg]; exact (below_size (by repeat (first | (with_reducible first | exact HB.out | apply below_alloc | apply pw_below_drewN | apply below_drew1) | exact HB.out))) : w.heap.size ≤ gb186)); have n3_ := Aside0.mk ((by rw [hg]; exact (below_size (by repeat (first | (with_reducible first | exact HB.out | apply below_alloc | apply pw_below_drewN | apply below_drew1) | exact HB.out))) : w.heap.size ≤ gb186)); clear HB; have HB := n0_; have BK186 := n1_; have GW186 := n2_; have GE186 := n3_; clear n0_ n1_ n2_ n3_; clear hb hbox hg))
        have n0_ := Aside0.mk (blk_drew BK186.out)
        have n1_ := Aside0.mk (below_drew1 HB.out)
        clear BK186
        clear HB
        have BK186 := n0_
        have HB := n1_
        clear n0_ n1_
        obtain ⟨i014, hi014, _, hsz14, _⟩ := info_parts info5
        obtain ⟨A14, hcut14, hA14, hC14⟩ := print_mid_of (P := Tryd.prog) (Value.int .u8) 0 23 5 .i64 .i64 Tryd.underlying23 hi014 hsz14 A0 c0 l0 1 5 (by omega) (by first | omega | exact of_decide_eq_true (by first | (with_reducible assumption) | assumption)) (of_decide_eq_true (by first | (with_reducible assumption) | assumption)) HC0.out
        have HR187 := Aside0.mk (Kd.C_of_reads (h1 := fun _ => rfl) (hA14 _ (Kd.reads_of_C HR0.out)))
        have HC187 := Aside0.mk hC14
        clear hA14 hC14 hi014 hsz14
        obtain ⟨i015, hi015, _, hsz15, _⟩ := info_parts info5
        obtain ⟨A15, hcut15, hA15, hC15⟩ := print_mid_of (P := Tryd.prog) (Value.int .u8) 0 23 5 .i64 .i64 Tryd.underlying23 hi015 hsz15 A0 c0 l0 5 9 (by omega) (by first | omega | exact of_decide_eq_true (by first | (with_reducible assumption) | assumption)) (of_decide_eq_true (by first | (with_reducible assumption) | assumption)) HC0.out
        have HR189 := Aside0.mk (Kd.C_of_reads (h1 := fun _ => rfl) (hA15 _ (Kd.reads_of_C HR0.out)))
        have HC189 := Aside0.mk hC15
        clear hA15 hC15 hi015 hsz15
        obtain ⟨i016, hi016, _, hsz16, _⟩ := info_parts info5
        obtain ⟨A16, hcut16, hA16, hC16⟩ := print_mid_of (P := Tryd.prog) (Value.int .u8) 0 23 5 .i64 .i64 Tryd.underlying23 hi016 hsz16 A0 c0 l0 9 17 (by omega) (by first | omega | exact of_decide_eq_true (by first | (with_reducible assumption) | assumption)) (of_decide_eq_true (by first | (with_reducible assumption) | assumption)) HC0.out
        have HR191 := Aside0.mk (Kd.C_of_reads (h1 := fun _ => rfl) (hA16 _ (Kd.reads_of_C HR0.out)))
        have HC191 := Aside0.mk hC16
        clear hA16 hC16 hi016 hsz16
        have p193 : 0 ≤ (17 : Int) := (by omega)
        have q193 : 17 < (l0.length : Int) := of_decide_eq_true (by first | (with_reducible assumption) | assumption)
        obtain ⟨ad193, e193, hx193_0⟩ := Kd.at_int HR0.out 17 p193 q193
        have hw193_0 := hx193_0
        (try rw [show ((17 : Int)).toNat = 17 from rfl] at hw193_0)
        (try rw [show 17 * 1 = 17 from rfl] at hw193_0)
        (try simp only [Nat.reduceMul, Nat.reduceEqDiff, Go.Addr.add, ↓reduceIte] at hw193_0)
        cases e193
        (try simp only [show (17 : Int).toNat = 17 from rfl, Nat.reduceMul, Nat.reduceEqDiff, Go.Addr.add, ↓reduceIte] at hx193_0)
        have qi193 : (17 < l0.length) = True := eq_true (by omega)
        (try rw [show ((17 : Int)).toNat = 17 from rfl] at hx193_0)
        replace hx193_0 := (HB.out.cell (World.block_lt_of_cell? w _ hx193_0)).trans hx193_0
        replace p193 := eq_true p193
        replace q193 := eq_true q193
        refine start_ (n := 17) (S := fun w' => w'.cell? ⟨ad193.block, ad193.off + 17, none⟩ = some (.int .u8 (rd l0 17))) (ds := []) #[false, false, false, false, false, false, false, false, false, false, false, false, false, false, false, false, false] (by kernel_rfl) rfl rfl (((HB.out.cell (World.block_lt_of_cell? w _ hw193_0)).trans hw193_0)) (fun hHeld => ?_); refine with_tabW pass_token.tab1 pass_token.bits1 (fun HT_ HW_ => ?_)
        generalize w12.drew = w13 at BK186 HB HR187 HR189 HR191 hx193_0 hHeld ⊢
        refine Rg.p2 0 (some 3) ?_
        refine Rg.p2 1 (some 4) ?_
        refine Rg.p2 4 (some 7) ?_
        refine Rg.p2 5 (some 8) ?_
        refine Rg.p2 8 (some 11) ?_
        refine Rg.p2 9 (some 12) ?_
        refine Rg.p2 11 (some 14) ?_
        refine Rg.p2 12 (some 15) ?_
        refine take_ (i := 13) (N := some 16) (v := ?_) (a' := ?_) #[true, true, false, false, true, true, false, false, true, true, false, true, true, true, false, false, false] rfl rfl (take_ofW HT_.out HW_.out (by kernel_rfl)) (fun _ _ _ h => h) (Or.inl ⟨by rfl, ?_⟩) hHeld ?_ ?_
        rotate_left
        ·intro w' s0
         go_simp
         with_reducible rfl
        rotate_left
        ·simp only [Act.put, List.setIfInBounds_toArray, List.set_cons_zero, List.set_cons_succ, i64_w, i32_w]
         rfl
        refine Rg.p2 14 (some 17) ?_
        refine one_ (i := 2) (N := some 5) #[true, true, true, false, true, true, false, false, true, true, false, true, true, true, true, false, false] rfl rfl (one_of HT_.out (by kernel_rfl)) (by decide) (fun K hK => ?_)
        refine goes_ Tryd.func58 (by kernel_rfl) rfl #[.slice A14 ((l0.take 5).drop 1).length (c0 - 1)] (by rfl) rfl rfl (by (try simp only [List.map_toArray, List.map_cons, List.map_nil]); first | done | (rw [show ((l0.take 5).drop 1).length = (5 - 1) from (by rw [List.length_drop, List.length_take]; have h_ : (5 : Int) ≤ (l0.length : Int) := of_decide_eq_true (by first | (with_reducible assumption) | assumption); omega)] <;> rfl) | rfl | (simp only [List.length_drop, List.length_take]; rfl) | (simp only [List.length_drop, List.length_take]; (repeat rw [Nat.min_eq_left (by simp only [eq_iff_iff, iff_true] at *; omega)]); rfl)) ?_
        with_reducible refine (pass_number.calls k _ _ ((l0.take 5).drop 1) t188 _ ?side1 ?side2 A4.out).mono ?_
        (case side1 => repeat (first | exact (Kd.C_below HR187.out HB.out) | (with_reducible refine Kd.C_alloc ?_ _) | (with_reducible refine Kd.C_drewN ?_ _) | (with_reducible refine Kd.C_drew ?_)))
        (case side2 => exact HC187.out)
        rintro e w' ⟨rfl, ⟨nd, rfl⟩⟩
        refine ⟨_, rfl, ?_⟩
        refine hK.out _ _ (((HB.out.cell (World.block_lt_of_cell? w _ hw193_0)).trans hw193_0)) (fun hHeld => ?_)
        clear hK K
        refine norm_ (a' := ?_) ?_ ?_
        rotate_left
        ·show Act.put _ (some 5) _ = _
         simp only [Act.put, List.setIfInBounds_toArray, List.set_cons_zero, List.set_cons_succ, i64_w, i32_w]
         rfl
        refine Rg.p2 3 (some 6) ?_
        refine one_ (i := 6) (N := some 9) #[true, true, true, true, true, true, true, false, true, true, false, true, true, true, true, false, false] rfl rfl (one_of HT_.out (by kernel_rfl)) (by decide) (fun K hK => ?_)
        refine goes_ Tryd.func58 (by kernel_rfl) rfl #[.slice A15 ((l0.take 9).drop 5).length (c0 - 5)] (by rfl) rfl rfl (by (try simp only [List.map_toArray, List.map_cons, List.map_nil]); first | done | (rw [show ((l0.take 9).drop 5).length = (9 - 5) from (by rw [List.length_drop, List.length_take]; have h_ : (9 : Int) ≤ (l0.length : Int) := of_decide_eq_true (by first | (with_reducible assumption) | assumption); omega)] <;> rfl) | rfl | (simp only [List.length_drop, List.length_take]; rfl) | (simp only [List.length_drop, List.length_take]; (repeat rw [Nat.min_eq_left (by simp only [eq_iff_iff, iff_true] at *; omega)]); rfl)) ?_
        with_reducible refine (pass_number.calls k _ _ ((l0.take 9).drop 5) t190 _ ?side1 ?side2 A7.out).mono ?_
        (case side1 => repeat (first | exact (Kd.C_below HR189.out (by repeat (first | (with_reducible first | exact HB.out | apply below_alloc | apply pw_below_drewN | apply below_drew1 | refine below_set ?_ GE186.out) | exact HB.out))) | (with_reducible refine Kd.C_alloc ?_ _) | (with_reducible refine Kd.C_drewN ?_ _) | (with_reducible refine Kd.C_drew ?_)))
        (case side2 => exact HC189.out)
        rintro e w' ⟨rfl, ⟨nd, rfl⟩⟩
        refine ⟨_, rfl, ?_⟩
        refine hK.out _ _ (((HB.out.cell (World.block_lt_of_cell? w _ hw193_0)).trans hw193_0)) (fun hHeld => ?_)
        clear hK K
        refine norm_ (a' := ?_) ?_ ?_
        rotate_left
        ·show Act.put _ (some 9) _ = _
         simp only [Act.put, List.setIfInBounds_toArray, List.set_cons_zero, List.set_cons_succ, i64_w, i32_w]
         rfl
        refine Rg.p2 7 (some 10) ?_
        refine one_ (i := 10) (N := some 13) #[true, true, true, true, true, true, true, true, true, true, true, true, true, true, true, false, false] rfl rfl (one_of HT_.out (by kernel_rfl)) (by decide) (fun K hK => ?_)
        refine goes_ Tryd.func58 (by kernel_rfl) rfl #[.slice A16 ((l0.take 17).drop 9).length (c0 - 9)] (by rfl) rfl rfl (by (try simp only [List.map_toArray, List.map_cons, List.map_nil]); first | done | (rw [show ((l0.take 17).drop 9).length = (17 - 9) from (by rw [List.length_drop, List.length_take]; have h_ : (17 : Int) ≤ (l0.length : Int) := of_decide_eq_true (by first | (with_reducible assumption) | assumption); omega)] <;> rfl) | rfl | (simp only [List.length_drop, List.length_take]; rfl) | (simp only [List.length_drop, List.length_take]; (repeat rw [Nat.min_eq_left (by simp only [eq_iff_iff, iff_true] at *; omega)]); rfl)) ?_
        with_reducible refine (pass_number.calls k _ _ ((l0.take 17).drop 9) t192 _ ?side1 ?side2 A10.out).mono ?_
        (case side1 => repeat (first | exact (Kd.C_below HR191.out (by repeat (first | (with_reducible first | exact HB.out | apply below_alloc | apply pw_below_drewN | apply below_drew1 | refine below_set ?_ GE186.out) | exact HB.out))) | (with_reducible refine Kd.C_alloc ?_ _) | (with_reducible refine Kd.C_drewN ?_ _) | (with_reducible refine Kd.C_drew ?_)))
        (case side2 => exact HC191.out)
        rintro e w' ⟨rfl, ⟨nd, rfl⟩⟩
        refine ⟨_, rfl, ?_⟩
        refine hK.out _ _ (((HB.out.cell (World.block_lt_of_cell? w _ hw193_0)).trans hw193_0)) (fun hHeld => ?_)
        clear hK K
        refine norm_ (a' := ?_) ?_ ?_
        rotate_left
        ·show Act.put _ (some 13) _ = _
         simp only [Act.put, List.setIfInBounds_toArray, List.set_cons_zero, List.set_cons_succ, i64_w, i32_w]
         rfl
        refine Rg.p2 15 (some 18) ?_
        refine one_ (i := 16) (N := none) #[true, true, true, true, true, true, true, true, true, true, true, true, true, true, true, true, true] rfl rfl (one_of HT_.out (by kernel_rfl)) (by decide) (fun K hK => ?_)
        have hs17 : w13.cell? ⟨gb186, 0, none⟩ = some (.int .u32 0) := (blk_cell BK186.out 0).trans rfl
        have hfs17 := blk_frozen BK186.out 0
        have hs18 : w13.cell? ⟨gb186, 1, none⟩ = some (.int .u32 0) := (blk_cell BK186.out 1).trans rfl
        have hfs18 := blk_frozen BK186.out 1
        have hs19 : w13.cell? ⟨gb186, 2, none⟩ = some (.bool false) := (blk_cell BK186.out 2).trans rfl
        have hfs19 := blk_frozen BK186.out 2
        have hs20 : w13.cell? ⟨gb186, 3, none⟩ = some (.int .u64 0) := (blk_cell BK186.out 3).trans rfl
        have hfs20 := blk_frozen BK186.out 3
        refine skip_ (w1 := ?_) (by rfl) rfl ?_ ?_
        rotate_left
        ·go_simp
         rfl
        refine hK.out _ _ (((cell_far (p := ⟨gb186, _, none⟩) (by first | exact Nat.ne_of_lt (Nat.lt_of_lt_of_le (by have := World.block_lt_of_cell? _ _ hw193_0; first | rwa [add_block] at this | exact this) GW186.out) | (rw [add_block]; exact Nat.ne_of_lt (Nat.lt_of_lt_of_le (by have := World.block_lt_of_cell? _ _ hw193_0; first | rwa [add_block] at this | exact this) GW186.out)) | (show (Addr.add _ _).block ≠ _; rw [add_block]; exact Nat.ne_of_lt (Nat.lt_of_lt_of_le (by have := World.block_lt_of_cell? _ _ hw193_0; first | rwa [add_block] at this | exact this) GW186.out)) | (dsimp only; exact Nat.ne_of_lt (Nat.lt_of_lt_of_le (by have := World.block_lt_of_cell? _ _ hw193_0; first | rwa [add_block] at this | exact this) GW186.out))) _).trans (((cell_far (p := ⟨gb186, _, none⟩) (by first | exact Nat.ne_of_lt (Nat.lt_of_lt_of_le (by have := World.block_lt_of_cell? _ _ hw193_0; first | rwa [add_block] at this | exact this) GW186.out) | (rw [add_block]; exact Nat.ne_of_lt (Nat.lt_of_lt_of_le (by have := World.block_lt_of_cell? _ _ hw193_0; first | rwa [add_block] at this | exact this) GW186.out)) | (show (Addr.add _ _).block ≠ _; rw [add_block]; exact Nat.ne_of_lt (Nat.lt_of_lt_of_le (by have := World.block_lt_of_cell? _ _ hw193_0; first | rwa [add_block] at this | exact this) GW186.out)) | (dsimp only; exact Nat.ne_of_lt (Nat.lt_of_lt_of_le (by have := World.block_lt_of_cell? _ _ hw193_0; first | rwa [add_block] at this | exact this) GW186.out))) _).trans (((cell_far (p := ⟨gb186, _, none⟩) (by first | exact Nat.ne_of_lt (Nat.lt_of_lt_of_le (by have := World.block_lt_of_cell? _ _ hw193_0; first | rwa [add_block] at this | exact this) GW186.out) | (rw [add_block]; exact Nat.ne_of_lt (Nat.lt_of_lt_of_le (by have := World.block_lt_of_cell? _ _ hw193_0; first | rwa [add_block] at this | exact this) GW186.out)) | (show (Addr.add _ _).block ≠ _; rw [add_block]; exact Nat.ne_of_lt (Nat.lt_of_lt_of_le (by have := World.block_lt_of_cell? _ _ hw193_0; first | rwa [add_block] at this | exact this) GW186.out)) | (dsimp only; exact Nat.ne_of_lt (Nat.lt_of_lt_of_le (by have := World.block_lt_of_cell? _ _ hw193_0; first | rwa [add_block] at this | exact this) GW186.out))) _).trans (((cell_far (p := ⟨gb186, _, none⟩) (by first | exact Nat.ne_of_lt (Nat.lt_of_lt_of_le (by have := World.block_lt_of_cell? _ _ hw193_0; first | rwa [add_block] at this | exact this) GW186.out) | (rw [add_block]; exact Nat.ne_of_lt (Nat.lt_of_lt_of_le (by have := World.block_lt_of_cell? _ _ hw193_0; first | rwa [add_block] at this | exact this) GW186.out)) | (show (Addr.add _ _).block ≠ _; rw [add_block]; exact Nat.ne_of_lt (Nat.lt_of_lt_of_le (by have := World.block_lt_of_cell? _ _ hw193_0; first | rwa [add_block] at this | exact this) GW186.out)) | (dsimp only; exact Nat.ne_of_lt (Nat.lt_of_lt_of_le (by have := World.block_lt_of_cell? _ _ hw193_0; first | rwa [add_block] at this | exact this) GW186.out))) _).trans (hHeld))))))))) (fun hHeld => ?_)
        clear hK K
        refine done_ (done_of HT_.out (by kernel_rfl)) ?_
        try go_wp2
        refine bodyPost_ret (results_cell_row rfl _ _ gb186 55 #[.int .u32 ((t188) % 4294967296), .int .u32 ((t190) % 4294967296), .bool ((rd l0 17) == 1), .int .u64 t192] (0, 0) _ rfl (by (with_reducible repeat (first | refine blk_drewN ?_ _ | refine blk_drew ?_ | refine blk_alloc ?_ _)); refine blk_put (cs := #[.int .u32 ((t188) % 4294967296), .int .u32 ((t190) % 4294967296), .bool ((rd l0 17) == 1), .int .u64 0]) ?_ 3 _ rfl; (with_reducible repeat (first | refine blk_drewN ?_ _ | refine blk_drew ?_ | refine blk_alloc ?_ _)); refine blk_put (cs := #[.int .u32 ((t188) % 4294967296), .int .u32 ((t190) % 4294967296), .bool false, .int .u64 0]) ?_ 2 _ rfl; (with_reducible repeat (first | refine blk_drewN ?_ _ | refine blk_drew ?_ | refine blk_alloc ?_ _)); refine blk_put (cs := #[.int .u32 ((t188) % 4294967296), .int .u32 0, .bool false, .int .u64 0]) ?_ 1 _ rfl; (with_reducible repeat (first | refine blk_drewN ?_ _ | refine blk_drew ?_ | refine blk_alloc ?_ _)); refine blk_put (cs := #[.int .u32 0, .int .u32 0, .bool false, .int .u64 0]) ?_ 0 _ rfl; (with_reducible repeat (first | refine blk_drewN ?_ _ | refine blk_drew ?_ | refine blk_alloc ?_ _)); exact BK186.out) Tryd.underlying55 rfl (by kernel_rfl)) rfl ?_
        exact ⟨by first | rfl | (simp [errW_none, errW_some] <;> rfl) | (simp [*, errW_none, errW_some] <;> rfl), by repeat (first | (with_reducible first | exact HB.out | apply below_alloc | apply pw_below_drewN | apply below_drew1 | refine below_set ?_ GE186.out) | exact HB.out)⟩
       ·rw [if_neg c11] at H
        exact absurd H (by simp)
      ·rw [if_neg c9] at H
       exact absurd H (by simp)
     ·rw [if_neg c8] at H
      exact absurd H (by simp)
    ·rw [if_neg c6] at H
     exact absurd H (by simp)
   ·rw [if_neg c5] at H
    exact absurd H (by simp)
  ·rw [if_neg c3] at H
   exact absurd H (by simp)
 ·rw [if_neg c2] at H
  exact absurd H (by simp)
def coamingref05_big.l0 : Nat → Int → List Int → Int → Option (List Int)
 | 0, _, _, _ => none
 | k + 1, x0, x5, x6 => if x6 ≥ 0 then (if 0 ≤ (IntKind.u64.wrap (wrap64 (8 * x6))) then (if x5.length < 140737488355328 then (coamingref05_big.l0 k x0 (x5 ++ [(shr .u64 x0 (IntKind.u64.wrap (wrap64 (8 * x6)))) % 256]) (wrap64 (x6 - 1))) else (none)) else (none)) else (some x5)
def coamingref05_big.f (k : Nat) (a0 : Int) (a1 : Int) : Option (List Int) := coamingref05_big.l0 k a0 ([] : List Int) (wrap64 (a1 - 1))
set_option maxHeartbeats 8000000 in
set_option maxRecDepth 100000 in
theorem coamingref05_big.calls (k : Nat) (a0 : Int) (a1 : Int) (r : List Int) (w : World) (h : coamingref05_big.f k a0 a1 = some r) :
  Calls Tryd.prog 48 #[.int .u64 a0, .int .i64 a1] w fun e w' => ∃ v0_ : Value, e = .returned (v0_) ∧ Kd.R (Kd.int .u8) 5 w' w.heap.size (fun _ => True) v0_ r ∧ Below w.heap.size w w' := by
 have HB := Aside0.mk (Below.refl w.heap.size w)
 have H : (coamingref05_big.l0 k a0 ([] : List Int) (wrap64 (a1 - 1))) = some r := h
 clear h
 have H' := Aside0.mk H
 clear H
 go_enter Tryd.func48, Tryd.ntmps48
 go_wp2
 go_loopg [5, 6] k (fun kq v5 v6 w' => ∃ (x5_1 : List Int) (x6_1 : Int), v6 = .int .i64 x6_1 ∧ Aside0 (coamingref05_big.l0 kq a0 x5_1 x6_1 = some r) ∧ Aside0 (kq ≤ k) ∧ Aside0 (Kd.R (Kd.int .u8) 5 w' w.heap.size (fun _ => True) v5 x5_1) ∧ Aside0 (Below w.heap.size w w'))
 case atStart => exact ⟨(([] : List Int)), (wrap64 (a1 - 1)), (by first | rfl | (simp; done) | (simp [*]; done)), H', ⟨Nat.le_refl _⟩, ⟨by first | exact Kd.R_nil _ _ _ _ _ | exact Kd.N_nil _ _ _ _ _ | exact Kd.V_nil _ _ _ _ _ | exact Kd.Q_nil _ _ _ _ _ | exact Kd.S_nil _ _ _ _ _⟩, ⟨by repeat (first | (with_reducible first | exact HB.out | apply below_alloc | apply pw_below_drewN | apply below_drew1) | exact HB.out)⟩⟩
 case round =>
  clear H'
  try clear p2
  obtain ⟨x5_1, x6_1, rfl, HA, HK1, HO_5, HB⟩ := hrel
  cases gk with
  | zero => exact absurd HA.out (by simp [coamingref05_big.l0])
  | succ k1 =>
   have H := HA.out
   clear HA
   simp only [coamingref05_big.l0] at H
   by_cases c3 : x6_1 ≥ 0
   ·rw [if_pos c3] at H
    have c3b0 : decide (0 ≤ x6_1) = true := decide_eq_true c3
    clear c3
    obtain ⟨ji4, hji4⟩ : ∃ j_ : Int, (IntKind.u64.wrap (wrap64 (8 * x6_1))) = j_ := ⟨_, rfl⟩
    replace H : (if 0 ≤ (ji4) then (if x5_1.length < 140737488355328 then (coamingref05_big.l0 k1 a0 (x5_1 ++ [(shr .u64 a0 (ji4)) % 256]) (wrap64 (x6_1 - 1))) else (none)) else (none)) = some r := by first | (rw [hji4] at H; exact H) | (simp only [hji4] at H ⊢; exact H)
    by_cases c5 : 0 ≤ (ji4)
    ·rw [if_pos c5] at H
     have c5b0 := eq_true c5
     have c5b1 : decide (0 ≤ (ji4)) = true := decide_eq_true c5
     clear c5
     obtain ⟨ji6, hji6⟩ : ∃ j_ : Int, (shr .u64 a0 (ji4)) = j_ := ⟨_, rfl⟩
     replace H : (if x5_1.length < 140737488355328 then (coamingref05_big.l0 k1 a0 (x5_1 ++ [(ji6) % 256]) (wrap64 (x6_1 - 1))) else (none)) = some r := by first | (rw [hji6] at H; exact H) | (simp only [hji6] at H ⊢; exact H)
     have hji6_ : (a0 / 2 ^ min (ji4).toNat 64) = ji6 := hji6
     have hji6z : (ji4) ≤ 64 → (a0 / 2 ^ (ji4).toNat) = ji6 := shr_small hji6
     by_cases c7 : x5_1.length < 140737488355328
     ·rw [if_pos c7] at H
      have LMc7 := Aside0.mk c7
      clear c7
      obtain ⟨y194, hy194⟩ : ∃ y_ : List Int, y_ = (x5_1 ++ [(ji6) % 256]) := ⟨_, rfl⟩
      replace H : (coamingref05_big.l0 k1 a0 y194 (wrap64 (x6_1 - 1))) = some r := by first | (rw [hy194]; with_reducible exact H) | (have H2_ := (Option.bind_some _ _).symm.trans H; rw [hy194]; with_reducible exact H2_) | (have H2_ := (Option.bind_some _ _).symm.trans H; with_reducible exact H2_) | with_reducible exact H | (rw [hy194]; exact H) | exact H
      have Ny194 := Aside0.mk hy194
      clear hy194
      have H' := Aside0.mk H
      clear H
      go_wp2_with (first | ((with_reducible refine gate_builtin (b := .append) (xs := #[.tmp 13, .tmp 20]) rfl ?_); at_builtin; refine Kd.R_append (Kd.int .u8) (w0 := w) w.heap.size rfl (.tmp 13) (.tmp 20) 23 5 (.int .u8 0) 1 rfl Tryd.underlying23 info5 rfl (by decide) (by omega) u5 x5_1 ((ji6) % 256) [.int .u8 ((ji6) % 256)] (fun _ => True) (fun _ => False) rfl rfl ?aP (fun _ hk => hk.elim) ?aF ?aO ?aB ?aS ?aL ?_; (case aP => exact rfl); (case aB => exact (by repeat (first | (with_reducible first | exact HB.out | apply below_alloc | apply pw_below_drewN | apply below_drew1) | exact HB.out))); (case aF => exact (fun _ _ => trivial)); (case aO => exact (by (with_reducible repeat (first | apply Kd.R_alloc | apply Kd.R_drewN | apply Kd.R_drew)); exact HO_5.out)); (case aS => exact (below_size (by repeat (first | (with_reducible first | exact HB.out | apply below_alloc | apply pw_below_drewN | apply below_drew1) | exact HB.out)))); (case aL => have := LMc7.out; omega); intro v195 w8 ho hb hg hat; rw [← Ny194.out] at ho; have n0_ := Aside0.mk (hb); have n1_ := Aside0.mk (ho); clear HB; clear HO_5; have HB := n0_; have HO196 := n1_; clear n0_ n1_; clear ho hb hg hat))
      go_roundg k1
      case measure => have := HK1.out; omega
      case rel => exact ⟨(y194), (wrap64 (x6_1 - 1)), (by first | rfl | (simp; done) | (simp [*]; done)), H', ⟨by have := HK1.out; omega⟩, ⟨by (with_reducible repeat (first | apply Kd.R_alloc | apply Kd.R_drewN | apply Kd.R_drew)); exact HO196.out⟩, ⟨by repeat (first | (with_reducible first | exact HB.out | apply below_alloc | apply pw_below_drewN | apply below_drew1) | exact HB.out)⟩⟩
     ·rw [if_neg c7] at H
      exact absurd H (by simp)
    ·rw [if_neg c5] at H
     exact absurd H (by simp)
   ·rw [if_neg c3] at H
    have c3b0 : decide (0 ≤ x6_1) = false := decide_eq_false c3
    clear c3
    obtain rfl := Option.some.inj H
    go_wp2
    go_ret
    exact ⟨_, by first | rfl | (simp [errW_none, errW_some] <;> rfl) | (simp [*, errW_none, errW_some] <;> rfl), by (with_reducible repeat (first | apply Kd.R_alloc | apply Kd.R_drewN | apply Kd.R_drew)); exact HO_5.out, by repeat (first | (with_reducible first | exact HB.out | apply below_alloc | apply pw_below_drewN | apply below_drew1) | exact HB.out)⟩
def coamingref05_body.f (k : Nat) (a0_0 : Int) (a0_1 : Int) (a0_2 : Bool) (a0_3 : Int) : Option (List Int) := (some (([1] : List Int) : List Int)).bind fun y198 => ((coamingref05_big.f k (IntKind.u64.wrap (a0_0)) 4).bind fun t201 => (if y198.length + t201.length < 140737488355328 then ((some (y198 ++ t201 : List Int)).bind fun y204 => ((coamingref05_big.f k (IntKind.u64.wrap (a0_1)) 4).bind fun t207 => (if y204.length + t207.length < 140737488355328 then ((some (y204 ++ t207 : List Int)).bind fun y210 => ((coamingref05_big.f k a0_3 8).bind fun t213 => (if y210.length + t213.length < 140737488355328 then ((some (y210 ++ t213 : List Int)).bind fun y216 => (if a0_2 = true then (if y216.length < 140737488355328 then (some (y216 ++ [1])) else (none)) else (if y216.length < 140737488355328 then (some (y216 ++ [0])) else (none)))) else (none)))) else (none)))) else (none)))
set_option maxHeartbeats 8000000 in
set_option maxRecDepth 100000 in
theorem coamingref05_body.calls (k : Nat) (a0_0 : Int) (a0_1 : Int) (a0_2 : Bool) (a0_3 : Int) (r : List Int) (w : World) (h : coamingref05_body.f k a0_0 a0_1 a0_2 a0_3 = some r) :
  Calls Tryd.prog 32 #[.agg #[.int .u32 a0_0, .int .u32 a0_1, .bool a0_2, .int .u64 a0_3]] w fun e w' => ∃ v0_ : Value, e = .returned (v0_) ∧ Kd.R (Kd.int .u8) 5 w' w.heap.size (fun _ => True) v0_ r ∧ Below w.heap.size w w' := by
 have hu55 := Tryd.underlying55
 have HB := Aside0.mk (Below.refl w.heap.size w)
 have H : ((some (([1] : List Int) : List Int)).bind fun y198 => ((coamingref05_big.f k (IntKind.u64.wrap (a0_0)) 4).bind fun t201 => (if y198.length + t201.length < 140737488355328 then ((some (y198 ++ t201 : List Int)).bind fun y204 => ((coamingref05_big.f k (IntKind.u64.wrap (a0_1)) 4).bind fun t207 => (if y204.length + t207.length < 140737488355328 then ((some (y204 ++ t207 : List Int)).bind fun y210 => ((coamingref05_big.f k a0_3 8).bind fun t213 => (if y210.length + t213.length < 140737488355328 then ((some (y210 ++ t213 : List Int)).bind fun y216 => (if a0_2 = true then (if y216.length < 140737488355328 then (some (y216 ++ [1])) else (none)) else (if y216.length < 140737488355328 then (some (y216 ++ [0])) else (none)))) else (none)))) else (none)))) else (none)))) = some r := h
 clear h
 obtain ⟨y198, hy198⟩ : ∃ y_ : List Int, y_ = (([1] : List Int)) := ⟨_, rfl⟩
 replace H : ((coamingref05_big.f k (IntKind.u64.wrap (a0_0)) 4).bind fun t201 => (if y198.length + t201.length < 140737488355328 then ((some (y198 ++ t201 : List Int)).bind fun y204 => ((coamingref05_big.f k (IntKind.u64.wrap (a0_1)) 4).bind fun t207 => (if y204.length + t207.length < 140737488355328 then ((some (y204 ++ t207 : List Int)).bind fun y210 => ((coamingref05_big.f k a0_3 8).bind fun t213 => (if y210.length + t213.length < 140737488355328 then ((some (y210 ++ t213 : List Int)).bind fun y216 => (if a0_2 = true then (if y216.length < 140737488355328 then (some (y216 ++ [1])) else (none)) else (if y216.length < 140737488355328 then (some (y216 ++ [0])) else (none)))) else (none)))) else (none)))) else (none))) = some r := by first | (rw [hy198]; with_reducible exact H) | (have H2_ := (Option.bind_some _ _).symm.trans H; rw [hy198]; with_reducible exact H2_) | (have H2_ := (Option.bind_some _ _).symm.trans H; with_reducible exact H2_) | with_reducible exact H | (rw [hy198]; exact H) | exact H
 have Ny198 := Aside0.mk hy198
 clear hy198
 replace H := Option.bind_eq_some_iff.mp H
 obtain ⟨t201, A20, H⟩ := H
 replace H : (if y198.length + t201.length < 140737488355328 then ((some (y198 ++ t201 : List Int)).bind fun y204 => ((coamingref05_big.f k (IntKind.u64.wrap (a0_1)) 4).bind fun t207 => (if y204.length + t207.length < 140737488355328 then ((some (y204 ++ t207 : List Int)).bind fun y210 => ((coamingref05_big.f k a0_3 8).bind fun t213 => (if y210.length + t213.length < 140737488355328 then ((some (y210 ++ t213 : List Int)).bind fun y216 => (if a0_2 = true then (if y216.length < 140737488355328 then (some (y216 ++ [1])) else (none)) else (if y216.length < 140737488355328 then (some (y216 ++ [0])) else (none)))) else (none)))) else (none)))) else (none)) = some r := H
 have A2 := Aside0.mk A20
 clear A20
 by_cases c3 : y198.length + t201.length < 140737488355328
 ·rw [if_pos c3] at H
  have LMc3 := Aside0.mk c3
  clear c3
  obtain ⟨y204, hy204⟩ : ∃ y_ : List Int, y_ = (y198 ++ t201) := ⟨_, rfl⟩
  replace H : ((coamingref05_big.f k (IntKind.u64.wrap (a0_1)) 4).bind fun t207 => (if y204.length + t207.length < 140737488355328 then ((some (y204 ++ t207 : List Int)).bind fun y210 => ((coamingref05_big.f k a0_3 8).bind fun t213 => (if y210.length + t213.length < 140737488355328 then ((some (y210 ++ t213 : List Int)).bind fun y216 => (if a0_2 = true then (if y216.length < 140737488355328 then (some (y216 ++ [1])) else (none)) else (if y216.length < 140737488355328 then (some (y216 ++ [0])) else (none)))) else (none)))) else (none))) = some r := by first | (rw [hy204]; with_reducible exact H) | (have H2_ := (Option.bind_some _ _).symm.trans H; rw [hy204]; with_reducible exact H2_) | (have H2_ := (Option.bind_some _ _).symm.trans H; with_reducible exact H2_) | with_reducible exact H | (rw [hy204]; exact H) | exact H
  have Ny204 := Aside0.mk hy204
  clear hy204
  replace H := Option.bind_eq_some_iff.mp H
  obtain ⟨t207, A40, H⟩ := H
  replace H : (if y204.length + t207.length < 140737488355328 then ((some (y204 ++ t207 : List Int)).bind fun y210 => ((coamingref05_big.f k a0_3 8).bind fun t213 => (if y210.length + t213.length < 140737488355328 then ((some (y210 ++ t213 : List Int)).bind fun y216 => (if a0_2 = true then (if y216.length < 140737488355328 then (some (y216 ++ [1])) else (none)) else (if y216.length < 140737488355328 then (some (y216 ++ [0])) else (none)))) else (none)))) else (none)) = some r := H
  have A4 := Aside0.mk A40
  clear A40
  by_cases c5 : y204.length + t207.length < 140737488355328
  ·rw [if_pos c5] at H
   have LMc5 := Aside0.mk c5
   clear c5
   obtain ⟨y210, hy210⟩ : ∃ y_ : List Int, y_ = (y204 ++ t207) := ⟨_, rfl⟩
   replace H : ((coamingref05_big.f k a0_3 8).bind fun t213 => (if y210.length + t213.length < 140737488355328 then ((some (y210 ++ t213 : List Int)).bind fun y216 => (if a0_2 = true then (if y216.length < 140737488355328 then (some (y216 ++ [1])) else (none)) else (if y216.length < 140737488355328 then (some (y216 ++ [0])) else (none)))) else (none))) = some r := by first | (rw [hy210]; with_reducible exact H) | (have H2_ := (Option.bind_some _ _).symm.trans H; rw [hy210]; with_reducible exact H2_) | (have H2_ := (Option.bind_some _ _).symm.trans H; with_reducible exact H2_) | with_reducible exact H | (rw [hy210]; exact H) | exact H
   have Ny210 := Aside0.mk hy210
   clear hy210
   replace H := Option.bind_eq_some_iff.mp H
   obtain ⟨t213, A60, H⟩ := H
   replace H : (if y210.length + t213.length < 140737488355328 then ((some (y210 ++ t213 : List Int)).bind fun y216 => (if a0_2 = true then (if y216.length < 140737488355328 then (some (y216 ++ [1])) else (none)) else (if y216.length < 140737488355328 then (some (y216 ++ [0])) else (none)))) else (none)) = some r := H
   have A6 := Aside0.mk A60
   clear A60
   by_cases c7 : y210.length + t213.length < 140737488355328
   ·rw [if_pos c7] at H
    have LMc7 := Aside0.mk c7
    clear c7
    obtain ⟨y216, hy216⟩ : ∃ y_ : List Int, y_ = (y210 ++ t213) := ⟨_, rfl⟩
    replace H : (if a0_2 = true then (if y216.length < 140737488355328 then (some (y216 ++ [1])) else (none)) else (if y216.length < 140737488355328 then (some (y216 ++ [0])) else (none))) = some r := by first | (rw [hy216]; with_reducible exact H) | (have H2_ := (Option.bind_some _ _).symm.trans H; rw [hy216]; with_reducible exact H2_) | (have H2_ := (Option.bind_some _ _).symm.trans H; with_reducible exact H2_) | with_reducible exact H | (rw [hy216]; exact H) | exact H
    have Ny216 := Aside0.mk hy216
    clear hy216
    by_cases c8 : a0_2 = true
    ·subst c8
     have H1 : (if y216.length < 140737488355328 then (some (y216 ++ [1])) else (none)) = some r := by rw [if_pos rfl] at H; exact H
     clear H
     have H := H1
     clear H1
     by_cases c9 : y216.length < 140737488355328
     ·rw [if_pos c9] at H
      have LMc9 := Aside0.mk c9
      clear c9
      obtain ⟨y219, hy219⟩ : ∃ y_ : List Int, y_ = (y216 ++ [1]) := ⟨_, rfl⟩
      replace H : (some y219) = some r := by first | (rw [hy219]; with_reducible exact H) | (have H2_ := (Option.bind_some _ _).symm.trans H; rw [hy219]; with_reducible exact H2_) | (have H2_ := (Option.bind_some _ _).symm.trans H; with_reducible exact H2_) | with_reducible exact H | (rw [hy219]; exact H) | exact H
      have Ny219 := Aside0.mk hy219
      clear hy219
      obtain rfl := Option.some.inj H
      go_enter Tryd.func32, Tryd.ntmps32
      go_wp2_with (first | ((with_reducible refine gate_dst (N := 1) rfl ?_); refine box_event ?hg (N := 1) ?hd (cs := #[.int .u32 a0_0, .int .u32 a0_1, .bool true, .int .u64 a0_3]) (t := 55) ?hr ?_; (case hd => rfl); (case hg => rfl); (case hr => first | (go_simp; done) | (go_simp; rfl) | (go_simp; simp only [IntKind.wrap_u32, Int.emod_add_emod, Int.add_emod_emod])); intro gb197 hg w10 hbox hb; have n0_ := Aside0.mk (below_step (by repeat (first | (with_reducible first | exact HB.out | apply below_alloc | apply pw_below_drewN | apply below_drew1) | exact HB.out)) hb); have n1_ := Aside0.mk (hbox); have n2_ := Aside0.mk ((by rw [hg]; exact (below_size (by repeat (first | (with_reducible first | exact HB.out | apply below_alloc | apply pw_below_drewN | apply below_drew1) | exact HB.out))) : w.heap.size ≤ gb197)); have n3_ := Aside0.mk ((by rw [hg]; exact (below_size (by repeat (first | (with_reducible first | exact HB.out | apply below_alloc | apply pw_below_drewN | apply below_drew1) | exact HB.out))) : w.heap.size ≤ gb197)); clear HB; have HB := n0_; have BK197 := n1_; have GW197 := n2_; have GE197 := n3_; clear n0_ n1_ n2_ n3_; clear hb hbox hg) | ((with_reducible refine gate_dst (N := 4) rfl ?_); refine Kd.R_lit (Kd.int .u8) _ 5 ?hg (N := 4) ?hd (xs := ([1] : List Int)) (inner := [.int .u8 1]) (ok := fun _ => True) (okp := fun _ => True) ?hr ?hp (fun _ hk => hk) trivial (Below.refl _ _) (Nat.le_refl _) (by simp) ?_; (case hd => rfl); (case hg => rfl); (case hr => first | (go_simp; done) | (go_simp; rfl) | (go_simp; simp only [IntKind.wrap_u32, Int.emod_add_emod, Int.add_emod_emod])); (case hp => exact (Reps.one (show Kd.M (Kd.int .u8) _ _ _ 1 [.int .u8 1] from rfl) (Reps.none _ _))); intro v199 w11 ho12 hb hg_ hnew_; clear hg_ hnew_; (first | rw [← Ny198.out] at ho12 | (simp only [Int.reduceToNat] at ho12; rw [← Ny198.out] at ho12)); have n0_ := Aside0.mk (Kd.R_lower ho12 (below_size (by repeat (first | (with_reducible first | exact HB.out | apply below_alloc | apply pw_below_drewN | apply below_drew1 | refine below_set ?_ GE197.out) | exact HB.out)))); have n1_ := Aside0.mk (blk_below (g := gb197) (o := .cells #[.int .u32 a0_0, .int .u32 a0_1, .bool true, .int .u64 a0_3] 55 (0, 0)) (by (with_reducible repeat (first | refine blk_drewN ?_ _ | refine blk_drew ?_ | refine blk_alloc ?_ _)); exact BK197.out) hb); have n2_ := Aside0.mk (below_step (by repeat (first | (with_reducible first | exact HB.out | apply below_alloc | apply pw_below_drewN | apply below_drew1 | refine below_set ?_ GE197.out) | exact HB.out)) hb); clear BK197; clear HB; have HO200 := n0_; have BK197 := n1_; have HB := n2_; clear n0_ n1_ n2_; clear hb ho12; have hcz13_0 : w11.cell? ⟨gb197, 0, none⟩ = some (.int .u32 a0_0) := (blk_cell BK197.out 0).trans rfl; have hcz13_1 : w11.cell? ⟨gb197, 1, none⟩ = some (.int .u32 a0_1) := (blk_cell BK197.out 1).trans rfl; have hcz13_2 : w11.cell? ⟨gb197, 2, none⟩ = some (.bool true) := (blk_cell BK197.out 2).trans rfl; have hcz13_3 : w11.cell? ⟨gb197, 3, none⟩ = some (.int .u64 a0_3) := (blk_cell BK197.out 3).trans rfl; have hfz13_0 := blk_frozen BK197.out 0; have hfz13_1 := blk_frozen BK197.out 1; have hfz13_2 := blk_frozen BK197.out 2; have hfz13_3 := blk_frozen BK197.out 3) | ((with_reducible refine gate_callee (f := 48) rfl ?_); refine goesL_ (some 9) rfl rfl Tryd.func48 (by kernel_rfl) rfl #[.int .u64 (IntKind.u64.wrap (a0_0)), .int .i64 4] rfl (by (try simp only [List.map_toArray, List.map_cons, List.map_nil]); first | done | rfl | (simp only [List.length_drop, List.length_take]; rfl) | (simp only [List.length_drop, List.length_take]; (repeat rw [Nat.min_eq_left (by simp only [eq_iff_iff, iff_true] at *; omega)]); rfl)) ?_; (with_reducible refine (coamingref05_big.calls k (IntKind.u64.wrap (a0_0)) 4 t201 _ A2.out).mono ?_); rintro e w14 ⟨v202, rfl, ho0, hb⟩; refine ⟨_, rfl, ?_⟩; have n0_ := Aside0.mk (Kd.R_elder' (by (with_reducible repeat (first | apply Kd.R_alloc | apply Kd.R_drewN | apply Kd.R_drew)); exact HO200.out) (Kd.R_base ho0) hb); have n1_ := Aside0.mk (Kd.R_lower (Kd.R_new' ho0 (Kd.R_lt (by (with_reducible repeat (first | apply Kd.R_alloc | apply Kd.R_drewN | apply Kd.R_drew)); exact HO200.out))) (below_size (by repeat (first | (with_reducible first | exact HB.out | apply below_alloc | apply pw_below_drewN | apply below_drew1 | refine below_set ?_ GE197.out) | exact HB.out)))); have n2_ := Aside0.mk (blk_below (g := gb197) (o := .cells #[.int .u32 a0_0, .int .u32 a0_1, .bool true, .int .u64 a0_3] 55 (0, 0)) (by (with_reducible repeat (first | refine blk_drewN ?_ _ | refine blk_drew ?_ | refine blk_alloc ?_ _)); exact BK197.out) hb); have n3_ := Aside0.mk (below_step (by repeat (first | (with_reducible first | exact HB.out | apply below_alloc | apply pw_below_drewN | apply below_drew1 | refine below_set ?_ GE197.out) | exact HB.out)) hb); clear HO200; clear BK197; clear HB; have HO200 := n0_; have HO203 := n1_; have BK197 := n2_; have HB := n3_; clear n0_ n1_ n2_ n3_; (try clear hb); (try clear hb2); (try clear hk); (try clear hi); (try clear ho0); obtain ⟨Ao16, co16, eo16⟩ := Kd.R_slice HO203.out; subst eo16) | ((with_reducible refine gate_builtin (b := .append) (xs := #[.tmp 5, .tmp 9]) rfl ?_); at_builtin; refine Kd.R_append_rows (Kd.int .u8) (w0 := w) w.heap.size rfl (.tmp 5) (.tmp 9) 23 5 (.int .u8 0) 1 rfl Tryd.underlying23 info5 rfl (by decide) (by omega) v199 y198 t201 _ _ _ (fun k_ => some k_ ≠ (.slice Ao16 t201.length co16 : Value).ownBlock) (fun _ => False) rfl rfl ?aO ?aR (fun _ _ h => h) (fun _ h => h.elim) ?aF ?aB ?aS ?aL ?_; (case aR => repeat (first | exact (Kd.R_reads' HO203.out).2.2 | (with_reducible refine Kd.C_alloc ?_ _) | (with_reducible refine Kd.C_drewN ?_ _) | (with_reducible refine Kd.C_drew ?_))); (case aB => exact (by repeat (first | (with_reducible first | exact HB.out | apply below_alloc | apply pw_below_drewN | apply below_drew1 | refine below_set ?_ GE197.out) | exact HB.out))); (case aF => exact (fun k_ hk => Kd.fresh' (Kd.R_lt (by (with_reducible repeat (first | apply Kd.R_alloc | apply Kd.R_drewN | apply Kd.R_drew)); exact HO203.out)) k_ hk)); (case aO => exact (by (with_reducible repeat (first | apply Kd.R_alloc | apply Kd.R_drewN | apply Kd.R_drew)); exact Kd.R_mono HO200.out (fun _ hk => hk.2))); (case aS => exact (below_size (by repeat (first | (with_reducible first | exact HB.out | apply below_alloc | apply pw_below_drewN | apply below_drew1 | refine below_set ?_ GE197.out) | exact HB.out)))); (case aL => have := LMc3.out; omega); intro v205 w15 ho hb hg hat; rw [← Ny204.out] at ho; have n0_ := Aside0.mk (blk_grown (g := gb197) (o := .cells #[.int .u32 a0_0, .int .u32 a0_1, .bool true, .int .u64 a0_3] 55 (0, 0)) (by (with_reducible repeat (first | refine blk_drewN ?_ _ | refine blk_drew ?_ | refine blk_alloc ?_ _)); exact BK197.out) hg (Kd.R_ne HO200.out BK197.out (by decide))); have n1_ := Aside0.mk (Kd.R_after (ok := (fun _ => True)) (by (with_reducible repeat (first | apply Kd.R_alloc | apply Kd.R_drewN | apply Kd.R_drew)); exact HO203.out) hg hat); have n2_ := Aside0.mk (hb); have n3_ := Aside0.mk (ho); clear BK197; clear HO203; clear HB; clear HO200; have BK197 := n0_; have HO203 := n1_; have HB := n2_; have HO206 := n3_; clear n0_ n1_ n2_ n3_; clear ho hb hg hat; have hcz17_0 : w15.cell? ⟨gb197, 0, none⟩ = some (.int .u32 a0_0) := (blk_cell BK197.out 0).trans rfl; have hcz17_1 : w15.cell? ⟨gb197, 1, none⟩ = some (.int .u32 a0_1) := (blk_cell BK197.out 1).trans rfl; have hcz17_2 : w15.cell? ⟨gb197, 2, none⟩ = some (.bool true) := (blk_cell BK197.out 2).trans rfl; have hcz17_3 : w15.cell? ⟨gb197, 3, none⟩ = some (.int .u64 a0_3) := (blk_cell BK197.out 3).trans rfl; have hfz17_0 := blk_frozen BK197.out 0; have hfz17_1 := blk_frozen BK197.out 1; have hfz17_2 := blk_frozen BK197.out 2; have hfz17_3 := blk_frozen BK197.out 3) | ((with_reducible refine gate_callee (f := 48) rfl ?_); refine goesL_ (some 15) rfl rfl Tryd.func48 (by kernel_rfl) rfl #[.int .u64 (IntKind.u64.wrap (a0_1)), .int .i64 4] rfl (by (try simp only [List.map_toArray, List.map_cons, List.map_nil]); first | done | rfl | (simp only [List.length_drop, List.length_take]; rfl) | (simp only [List.length_drop, List.length_take]; (repeat rw [Nat.min_eq_left (by simp only [eq_iff_iff, iff_true] at *; omega)]); rfl)) ?_; (with_reducible refine (coamingref05_big.calls k (IntKind.u64.wrap (a0_1)) 4 t207 _ A4.out).mono ?_); rintro e w18 ⟨v208, rfl, ho0, hb⟩; refine ⟨_, rfl, ?_⟩; have n0_ := Aside0.mk (Kd.R_elder' (by (with_reducible repeat (first | apply Kd.R_alloc | apply Kd.R_drewN | apply Kd.R_drew)); exact HO203.out) (Kd.R_base ho0) hb); have n1_ := Aside0.mk (Kd.R_elder' (by (with_reducible repeat (first | apply Kd.R_alloc | apply Kd.R_drewN | apply Kd.R_drew)); exact HO206.out) (Kd.R_base ho0) hb); have n2_ := Aside0.mk (Kd.R_lower (Kd.R_new' (Kd.R_new' ho0 (Kd.R_lt (by (with_reducible repeat (first | apply Kd.R_alloc | apply Kd.R_drewN | apply Kd.R_drew)); exact HO203.out))) (Kd.R_lt (by (with_reducible repeat (first | apply Kd.R_alloc | apply Kd.R_drewN | apply Kd.R_drew)); exact HO206.out))) (below_size (by repeat (first | (with_reducible first | exact HB.out | apply below_alloc | apply pw_below_drewN | apply below_drew1 | refine below_set ?_ GE197.out) | exact HB.out)))); have n3_ := Aside0.mk (blk_below (g := gb197) (o := .cells #[.int .u32 a0_0, .int .u32 a0_1, .bool true, .int .u64 a0_3] 55 (0, 0)) (by (with_reducible repeat (first | refine blk_drewN ?_ _ | refine blk_drew ?_ | refine blk_alloc ?_ _)); exact BK197.out) hb); have n4_ := Aside0.mk (below_step (by repeat (first | (with_reducible first | exact HB.out | apply below_alloc | apply pw_below_drewN | apply below_drew1 | refine below_set ?_ GE197.out) | exact HB.out)) hb); clear HO203; clear HO206; clear BK197; clear HB; have HO203 := n0_; have HO206 := n1_; have HO209 := n2_; have BK197 := n3_; have HB := n4_; clear n0_ n1_ n2_ n3_ n4_; (try clear hb); (try clear hb2); (try clear hk); (try clear hi); (try clear ho0); obtain ⟨Ao20, co20, eo20⟩ := Kd.R_slice HO209.out; subst eo20) | ((with_reducible refine gate_builtin (b := .append) (xs := #[.tmp 11, .tmp 15]) rfl ?_); at_builtin; refine Kd.R_append_rows (Kd.int .u8) (w0 := w) w.heap.size rfl (.tmp 11) (.tmp 15) 23 5 (.int .u8 0) 1 rfl Tryd.underlying23 info5 rfl (by decide) (by omega) v205 y204 t207 _ _ _ (fun k_ => some k_ ≠ (.slice Ao16 t201.length co16 : Value).ownBlock ∧ some k_ ≠ (.slice Ao20 t207.length co20 : Value).ownBlock) (fun _ => False) rfl rfl ?aO ?aR (fun _ _ h => h) (fun _ h => h.elim) ?aF ?aB ?aS ?aL ?_; (case aR => repeat (first | exact (Kd.R_reads' HO209.out).2.2 | (with_reducible refine Kd.C_alloc ?_ _) | (with_reducible refine Kd.C_drewN ?_ _) | (with_reducible refine Kd.C_drew ?_))); (case aB => exact (by repeat (first | (with_reducible first | exact HB.out | apply below_alloc | apply pw_below_drewN | apply below_drew1 | refine below_set ?_ GE197.out) | exact HB.out))); (case aF => exact (fun k_ hk => ⟨Kd.fresh' (Kd.R_lt (by (with_reducible repeat (first | apply Kd.R_alloc | apply Kd.R_drewN | apply Kd.R_drew)); exact HO203.out)) k_ hk, Kd.fresh' (Kd.R_lt (by (with_reducible repeat (first | apply Kd.R_alloc | apply Kd.R_drewN | apply Kd.R_drew)); exact HO209.out)) k_ hk⟩)); (case aO => exact (by (with_reducible repeat (first | apply Kd.R_alloc | apply Kd.R_drewN | apply Kd.R_drew)); exact HO206.out)); (case aS => exact (below_size (by repeat (first | (with_reducible first | exact HB.out | apply below_alloc | apply pw_below_drewN | apply below_drew1 | refine below_set ?_ GE197.out) | exact HB.out)))); (case aL => have := LMc5.out; omega); intro v211 w19 ho hb hg hat; rw [← Ny210.out] at ho; have n0_ := Aside0.mk (blk_grown (g := gb197) (o := .cells #[.int .u32 a0_0, .int .u32 a0_1, .bool true, .int .u64 a0_3] 55 (0, 0)) (by (with_reducible repeat (first | refine blk_drewN ?_ _ | refine blk_drew ?_ | refine blk_alloc ?_ _)); exact BK197.out) hg (Kd.R_ne HO206.out BK197.out (by decide))); have n1_ := Aside0.mk (Kd.R_after (ok := (fun k_ => some k_ ≠ (.slice Ao20 t207.length co20 : Value).ownBlock)) (by (with_reducible repeat (first | apply Kd.R_alloc | apply Kd.R_drewN | apply Kd.R_drew)); exact Kd.R_mono HO203.out (fun _ hk => ⟨hk.2, hk.1.2⟩)) hg hat); have n2_ := Aside0.mk (Kd.R_after (ok := (fun k_ => some k_ ≠ (.slice Ao16 t201.length co16 : Value).ownBlock)) (by (with_reducible repeat (first | apply Kd.R_alloc | apply Kd.R_drewN | apply Kd.R_drew)); exact Kd.R_mono HO209.out (fun _ hk => ⟨hk.1.2, hk.2⟩)) hg hat); have n3_ := Aside0.mk (hb); have n4_ := Aside0.mk (ho); clear BK197; clear HO203; clear HO209; clear HB; clear HO206; have BK197 := n0_; have HO203 := n1_; have HO209 := n2_; have HB := n3_; have HO212 := n4_; clear n0_ n1_ n2_ n3_ n4_; clear ho hb hg hat; have hcz21_0 : w19.cell? ⟨gb197, 0, none⟩ = some (.int .u32 a0_0) := (blk_cell BK197.out 0).trans rfl; have hcz21_1 : w19.cell? ⟨gb197, 1, none⟩ = some (.int .u32 a0_1) := (blk_cell BK197.out 1).trans rfl; have hcz21_2 : w19.cell? ⟨gb197, 2, none⟩ = some (.bool true) := (blk_cell BK197.out 2).trans rfl; have hcz21_3 : w19.cell? ⟨gb197, 3, none⟩ = some (.int .u64 a0_3) := (blk_cell BK197.out 3).trans rfl; have hfz21_0 := blk_frozen BK197.out 0; have hfz21_1 := blk_frozen BK197.out 1; have hfz21_2 := blk_frozen BK197.out 2; have hfz21_3 := blk_frozen BK197.out 3) | ((with_reducible refine gate_callee (f := 48) rfl ?_); refine goesL_ (some 20) rfl rfl Tryd.func48 (by kernel_rfl) rfl #[.int .u64 a0_3, .int .i64 8] rfl (by (try simp only [List.map_toArray, List.map_cons, List.map_nil]); first | done | rfl | (simp only [List.length_drop, List.length_take]; rfl) | (simp only [List.length_drop, List.length_take]; (repeat rw [Nat.min_eq_left (by simp only [eq_iff_iff, iff_true] at *; omega)]); rfl)) ?_; (with_reducible refine (coamingref05_big.calls k a0_3 8 t213 _ A6.out).mono ?_); rintro e w22 ⟨v214, rfl, ho0, hb⟩; refine ⟨_, rfl, ?_⟩; have n0_ := Aside0.mk (Kd.R_elder' (by (with_reducible repeat (first | apply Kd.R_alloc | apply Kd.R_drewN | apply Kd.R_drew)); exact HO203.out) (Kd.R_base ho0) hb); have n1_ := Aside0.mk (Kd.R_elder' (by (with_reducible repeat (first | apply Kd.R_alloc | apply Kd.R_drewN | apply Kd.R_drew)); exact HO209.out) (Kd.R_base ho0) hb); have n2_ := Aside0.mk (Kd.R_elder' (by (with_reducible repeat (first | apply Kd.R_alloc | apply Kd.R_drewN | apply Kd.R_drew)); exact HO212.out) (Kd.R_base ho0) hb); have n3_ := Aside0.mk (Kd.R_lower (Kd.R_new' (Kd.R_new' (Kd.R_new' ho0 (Kd.R_lt (by (with_reducible repeat (first | apply Kd.R_alloc | apply Kd.R_drewN | apply Kd.R_drew)); exact HO203.out))) (Kd.R_lt (by (with_reducible repeat (first | apply Kd.R_alloc | apply Kd.R_drewN | apply Kd.R_drew)); exact HO209.out))) (Kd.R_lt (by (with_reducible repeat (first | apply Kd.R_alloc | apply Kd.R_drewN | apply Kd.R_drew)); exact HO212.out))) (below_size (by repeat (first | (with_reducible first | exact HB.out | apply below_alloc | apply pw_below_drewN | apply below_drew1 | refine below_set ?_ GE197.out) | exact HB.out)))); have n4_ := Aside0.mk (blk_below (g := gb197) (o := .cells #[.int .u32 a0_0, .int .u32 a0_1, .bool true, .int .u64 a0_3] 55 (0, 0)) (by (with_reducible repeat (first | refine blk_drewN ?_ _ | refine blk_drew ?_ | refine blk_alloc ?_ _)); exact BK197.out) hb); have n5_ := Aside0.mk (below_step (by repeat (first | (with_reducible first | exact HB.out | apply below_alloc | apply pw_below_drewN | apply below_drew1 | refine below_set ?_ GE197.out) | exact HB.out)) hb); clear HO203; clear HO209; clear HO212; clear BK197; clear HB; have HO203 := n0_; have HO209 := n1_; have HO212 := n2_; have HO215 := n3_; have BK197 := n4_; have HB := n5_; clear n0_ n1_ n2_ n3_ n4_ n5_; (try clear hb); (try clear hb2); (try clear hk); (try clear hi); (try clear ho0); obtain ⟨Ao24, co24, eo24⟩ := Kd.R_slice HO215.out; subst eo24) | ((with_reducible refine gate_builtin (b := .append) (xs := #[.tmp 17, .tmp 20]) rfl ?_); at_builtin; refine Kd.R_append_rows (Kd.int .u8) (w0 := w) w.heap.size rfl (.tmp 17) (.tmp 20) 23 5 (.int .u8 0) 1 rfl Tryd.underlying23 info5 rfl (by decide) (by omega) v211 y210 t213 _ _ _ (fun k_ => some k_ ≠ (.slice Ao16 t201.length co16 : Value).ownBlock ∧ some k_ ≠ (.slice Ao20 t207.length co20 : Value).ownBlock ∧ some k_ ≠ (.slice Ao24 t213.length co24 : Value).ownBlock) (fun _ => False) rfl rfl ?aO ?aR (fun _ _ h => h) (fun _ h => h.elim) ?aF ?aB ?aS ?aL ?_; (case aR => repeat (first | exact (Kd.R_reads' HO215.out).2.2 | (with_reducible refine Kd.C_alloc ?_ _) | (with_reducible refine Kd.C_drewN ?_ _) | (with_reducible refine Kd.C_drew ?_))); (case aB => exact (by repeat (first | (with_reducible first | exact HB.out | apply below_alloc | apply pw_below_drewN | apply below_drew1 | refine below_set ?_ GE197.out) | exact HB.out))); (case aF => exact (fun k_ hk => ⟨Kd.fresh' (Kd.R_lt (by (with_reducible repeat (first | apply Kd.R_alloc | apply Kd.R_drewN | apply Kd.R_drew)); exact HO203.out)) k_ hk, Kd.fresh' (Kd.R_lt (by (with_reducible repeat (first | apply Kd.R_alloc | apply Kd.R_drewN | apply Kd.R_drew)); exact HO209.out)) k_ hk, Kd.fresh' (Kd.R_lt (by (with_reducible repeat (first | apply Kd.R_alloc | apply Kd.R_drewN | apply Kd.R_drew)); exact HO215.out)) k_ hk⟩)); (case aO => exact (by (with_reducible repeat (first | apply Kd.R_alloc | apply Kd.R_drewN | apply Kd.R_drew)); exact Kd.R_mono HO212.out (fun _ hk => ⟨hk.1.1, ⟨hk.1.2, hk.2⟩⟩))); (case aS => exact (below_size (by repeat (first | (with_reducible first | exact HB.out | apply below_alloc | apply pw_below_drewN | apply below_drew1 | refine below_set ?_ GE197.out) | exact HB.out)))); (case aL => have := LMc7.out; omega); intro v217 w23 ho hb hg hat; rw [← Ny216.out] at ho; have n0_ := Aside0.mk (blk_grown (g := gb197) (o := .cells #[.int .u32 a0_0, .int .u32 a0_1, .bool true, .int .u64 a0_3] 55 (0, 0)) (by (with_reducible repeat (first | refine blk_drewN ?_ _ | refine blk_drew ?_ | refine blk_alloc ?_ _)); exact BK197.out) hg (Kd.R_ne HO212.out BK197.out (by decide))); have n1_ := Aside0.mk (Kd.R_after (ok := (fun k_ => some k_ ≠ (.slice Ao20 t207.length co20 : Value).ownBlock ∧ some k_ ≠ (.slice Ao24 t213.length co24 : Value).ownBlock)) (by (with_reducible repeat (first | apply Kd.R_alloc | apply Kd.R_drewN | apply Kd.R_drew)); exact Kd.R_mono HO203.out (fun _ hk => ⟨⟨hk.1.1, hk.2⟩, hk.1.2⟩)) hg hat); have n2_ := Aside0.mk (Kd.R_after (ok := (fun k_ => some k_ ≠ (.slice Ao16 t201.length co16 : Value).ownBlock ∧ some k_ ≠ (.slice Ao24 t213.length co24 : Value).ownBlock)) (by (with_reducible repeat (first | apply Kd.R_alloc | apply Kd.R_drewN | apply Kd.R_drew)); exact Kd.R_mono HO209.out (fun _ hk => ⟨⟨hk.1.1, hk.2⟩, hk.1.2⟩)) hg hat); have n3_ := Aside0.mk (Kd.R_after (ok := (fun k_ => some k_ ≠ (.slice Ao16 t201.length co16 : Value).ownBlock ∧ some k_ ≠ (.slice Ao20 t207.length co20 : Value).ownBlock)) (by (with_reducible repeat (first | apply Kd.R_alloc | apply Kd.R_drewN | apply Kd.R_drew)); exact Kd.R_mono HO215.out (fun _ hk => ⟨⟨hk.1.1.2, hk.1.2⟩, hk.2⟩)) hg hat); have n4_ := Aside0.mk (hb); have n5_ := Aside0.mk (ho); clear BK197; clear HO203; clear HO209; clear HO215; clear HB; clear HO212; have BK197 := n0_; have HO203 := n1_; have HO209 := n2_; have HO215 := n3_; have HB := n4_; have HO218 := n5_; clear n0_ n1_ n2_ n3_ n4_ n5_; clear ho hb hg hat; have hcz25_0 : w23.cell? ⟨gb197, 0, none⟩ = some (.int .u32 a0_0) := (blk_cell BK197.out 0).trans rfl; have hcz25_1 : w23.cell? ⟨gb197, 1, none⟩ = some (.int .u32 a0_1) := (blk_cell BK197.out 1).trans rfl; have hcz25_2 : w23.cell? ⟨gb197, 2, none⟩ = some (.bool true) := (blk_cell BK197.out 2).trans rfl; have hcz25_3 : w23.cell? ⟨gb197, 3, none⟩ = some (.int .u64 a0_3) := (blk_cell BK197.out 3).trans rfl; have hfz25_0 := blk_frozen BK197.out 0; have hfz25_1 := blk_frozen BK197.out 1; have hfz25_2 := blk_frozen BK197.out 2; have hfz25_3 := blk_frozen BK197.out 3) | ((with_reducible refine gate_builtin (b := .append) (xs := #[.tmp 24, .tmp 25]) rfl ?_); at_builtin; refine Kd.R_append (Kd.int .u8) (w0 := w) w.heap.size rfl (.tmp 24) (.tmp 25) 23 5 (.int .u8 0) 1 rfl Tryd.underlying23 info5 rfl (by decide) (by omega) v217 y216 1 [.int .u8 1] (fun k_ => some k_ ≠ (.slice Ao16 t201.length co16 : Value).ownBlock ∧ some k_ ≠ (.slice Ao20 t207.length co20 : Value).ownBlock ∧ some k_ ≠ (.slice Ao24 t213.length co24 : Value).ownBlock) (fun _ => False) rfl rfl ?aP (fun _ hk => hk.elim) ?aF ?aO ?aB ?aS ?aL ?_; (case aP => exact rfl); (case aB => exact (by repeat (first | (with_reducible first | exact HB.out | apply below_alloc | apply pw_below_drewN | apply below_drew1 | refine below_set ?_ GE197.out) | exact HB.out))); (case aF => exact (fun k_ hk => ⟨Kd.fresh' (Kd.R_lt (by (with_reducible repeat (first | apply Kd.R_alloc | apply Kd.R_drewN | apply Kd.R_drew)); exact HO203.out)) k_ hk, Kd.fresh' (Kd.R_lt (by (with_reducible repeat (first | apply Kd.R_alloc | apply Kd.R_drewN | apply Kd.R_drew)); exact HO209.out)) k_ hk, Kd.fresh' (Kd.R_lt (by (with_reducible repeat (first | apply Kd.R_alloc | apply Kd.R_drewN | apply Kd.R_drew)); exact HO215.out)) k_ hk⟩)); (case aO => exact (by (with_reducible repeat (first | apply Kd.R_alloc | apply Kd.R_drewN | apply Kd.R_drew)); exact HO218.out)); (case aS => exact (below_size (by repeat (first | (with_reducible first | exact HB.out | apply below_alloc | apply pw_below_drewN | apply below_drew1 | refine below_set ?_ GE197.out) | exact HB.out)))); (case aL => have := LMc9.out; omega); intro v220 w26 ho hb hg hat; rw [← Ny219.out] at ho; have n0_ := Aside0.mk (blk_grown (g := gb197) (o := .cells #[.int .u32 a0_0, .int .u32 a0_1, .bool true, .int .u64 a0_3] 55 (0, 0)) (by (with_reducible repeat (first | refine blk_drewN ?_ _ | refine blk_drew ?_ | refine blk_alloc ?_ _)); exact BK197.out) hg (Kd.R_ne HO218.out BK197.out (by decide))); have n1_ := Aside0.mk (Kd.R_after (ok := (fun k_ => some k_ ≠ (.slice Ao20 t207.length co20 : Value).ownBlock ∧ some k_ ≠ (.slice Ao24 t213.length co24 : Value).ownBlock)) (by (with_reducible repeat (first | apply Kd.R_alloc | apply Kd.R_drewN | apply Kd.R_drew)); exact HO203.out) hg hat); have n2_ := Aside0.mk (Kd.R_after (ok := (fun k_ => some k_ ≠ (.slice Ao16 t201.length co16 : Value).ownBlock ∧ some k_ ≠ (.slice Ao24 t213.length co24 : Value).ownBlock)) (by (with_reducible repeat (first | apply Kd.R_alloc | apply Kd.R_drewN | apply Kd.R_drew)); exact HO209.out) hg hat); have n3_ := Aside0.mk (Kd.R_after (ok := (fun k_ => some k_ ≠ (.slice Ao16 t201.length co16 : Value).ownBlock ∧ some k_ ≠ (.slice Ao20 t207.length co20 : Value).ownBlock)) (by (with_reducible repeat (first | apply Kd.R_alloc | apply Kd.R_drewN | apply Kd.R_drew)); exact HO215.out) hg hat); have n4_ := Aside0.mk (hb); have n5_ := Aside0.mk (ho); clear BK197; clear HO203; clear HO209; clear HO215; clear HB; clear HO218; have BK197 := n0_; have HO203 := n1_; have HO209 := n2_; have HO215 := n3_; have HB := n4_; have HO221 := n5_; clear n0_ n1_ n2_ n3_ n4_ n5_; clear ho hb hg hat))
      go_ret
      exact ⟨_, by first | rfl | (simp [errW_none, errW_some] <;> rfl) | (simp [*, errW_none, errW_some] <;> rfl), by (with_reducible repeat (first | apply Kd.R_alloc | apply Kd.R_drewN | apply Kd.R_drew)); exact Kd.R_mono HO221.out (fun _ hk => trivial), by repeat (first | (with_reducible first | exact HB.out | apply below_alloc | apply pw_below_drewN | apply below_drew1 | refine below_set ?_ GE197.out) | exact HB.out)⟩
     ·rw [if_neg c9] at H
      exact absurd H (by simp)
    ·replace c8 := Bool.eq_false_iff.mpr c8
     subst c8
     have H1 : (if y216.length < 140737488355328 then (some (y216 ++ [0])) else (none)) = some r := by rw [if_neg (show ¬ (false = true) by decide)] at H; exact H
     clear H
     have H := H1
     clear H1
     by_cases c27 : y216.length < 140737488355328
     ·rw [if_pos c27] at H
      have LMc27 := Aside0.mk c27
      clear c27
      obtain ⟨y222, hy222⟩ : ∃ y_ : List Int, y_ = (y216 ++ [0]) := ⟨_, rfl⟩
      replace H : (some y222) = some r := by first | (rw [hy222]; with_reducible exact H) | (have H2_ := (Option.bind_some _ _).symm.trans H; rw [hy222]; with_reducible exact H2_) | (have H2_ := (Option.bind_some _ _).symm.trans H; with_reducible exact H2_) | with_reducible exact H | (rw [hy222]; exact H) | exact H
      have Ny222 := Aside0.mk hy222
      clear hy222
      obtain rfl := Option.some.inj H
      go_enter Tryd.func32, Tryd.ntmps32
      go_wp2_with (first | ((with_reducible refine gate_dst (N := 1) rfl ?_); refine box_event ?hg (N := 1) ?hd (cs := #[.int .u32 a0_0, .int .u32 a0_1, .bool false, .int .u64 a0_3]) (t := 55) ?hr ?_; (case hd => rfl); (case hg => rfl); (case hr => first | (go_simp; done) | (go_simp; rfl) | (go_simp; simp only [IntKind.wrap_u32, Int.emod_add_emod, Int.add_emod_emod])); intro gb197 hg w28 hbox hb; have n0_ := Aside0.mk (below_step (by repeat (first | (with_reducible first | exact HB.out | apply below_alloc | apply pw_below_drewN | apply below_drew1) | exact HB.out)) hb); have n1_ := Aside0.mk (hbox); have n2_ := Aside0.mk ((by rw [hg]; exact (below_size (by repeat (first | (with_reducible first | exact HB.out | apply below_alloc | apply pw_below_drewN | apply below_drew1) | exact HB.out))) : w.heap.size ≤ gb197)); have n3_ := Aside0.mk ((by rw [hg]; exact (below_size (by repeat (first | (with_reducible first | exact HB.out | apply below_alloc | apply pw_below_drewN | apply below_drew1) | exact HB.out))) : w.heap.size ≤ gb197)); clear HB; have HB := n0_; have BK197 := n1_; have GW197 := n2_; have GE197 := n3_; clear n0_ n1_ n2_ n3_; clear hb hbox hg) | ((with_reducible refine gate_dst (N := 4) rfl ?_); refine Kd.R_lit (Kd.int .u8) _ 5 ?hg (N := 4) ?hd (xs := ([1] : List Int)) (inner := [.int .u8 1]) (ok := fun _ => True) (okp := fun _ => True) ?hr ?hp (fun _ hk => hk) trivial (Below.refl _ _) (Nat.le_refl _) (by simp) ?_; (case hd => rfl); (case hg => rfl); (case hr => first | (go_simp; done) | (go_simp; rfl) | (go_simp; simp only [IntKind.wrap_u32, Int.emod_add_emod, Int.add_emod_emod])); (case hp => exact (Reps.one (show Kd.M (Kd.int .u8) _ _ _ 1 [.int .u8 1] from rfl) (Reps.none _ _))); intro v199 w29 ho30 hb hg_ hnew_; clear hg_ hnew_; (first | rw [← Ny198.out] at ho30 | (simp only [Int.reduceToNat] at ho30; rw [← Ny198.out] at ho30)); have n0_ := Aside0.mk (Kd.R_lower ho30 (below_size (by repeat (first | (with_reducible first | exact HB.out | apply below_alloc | apply pw_below_drewN | apply below_drew1 | refine below_set ?_ GE197.out) | exact HB.out)))); have n1_ := Aside0.mk (blk_below (g := gb197) (o := .cells #[.int .u32 a0_0, .int .u32 a0_1, .bool false, .int .u64 a0_3] 55 (0, 0)) (by (with_reducible repeat (first | refine blk_drewN ?_ _ | refine blk_drew ?_ | refine blk_alloc ?_ _)); exact BK197.out) hb); have n2_ := Aside0.mk (below_step (by repeat (first | (with_reducible first | exact HB.out | apply below_alloc | apply pw_below_drewN | apply below_drew1 | refine below_set ?_ GE197.out) | exact HB.out)) hb); clear BK197; clear HB; have HO200 := n0_; have BK197 := n1_; have HB := n2_; clear n0_ n1_ n2_; clear hb ho30; have hcz31_0 : w29.cell? ⟨gb197, 0, none⟩ = some (.int .u32 a0_0) := (blk_cell BK197.out 0).trans rfl; have hcz31_1 : w29.cell? ⟨gb197, 1, none⟩ = some (.int .u32 a0_1) := (blk_cell BK197.out 1).trans rfl; have hcz31_2 : w29.cell? ⟨gb197, 2, none⟩ = some (.bool false) := (blk_cell BK197.out 2).trans rfl; have hcz31_3 : w29.cell? ⟨gb197, 3, none⟩ = some (.int .u64 a0_3) := (blk_cell BK197.out 3).trans rfl; have hfz31_0 := blk_frozen BK197.out 0; have hfz31_1 := blk_frozen BK197.out 1; have hfz31_2 := blk_frozen BK197.out 2; have hfz31_3 := blk_frozen BK197.out 3) | ((with_reducible refine gate_callee (f := 48) rfl ?_); refine goesL_ (some 9) rfl rfl Tryd.func48 (by kernel_rfl) rfl #[.int .u64 (IntKind.u64.wrap (a0_0)), .int .i64 4] rfl (by (try simp only [List.map_toArray, List.map_cons, List.map_nil]); first | done | rfl | (simp only [List.length_drop, List.length_take]; rfl) | (simp only [List.length_drop, List.length_take]; (repeat rw [Nat.min_eq_left (by simp only [eq_iff_iff, iff_true] at *; omega)]); rfl)) ?_; (with_reducible refine (coamingref05_big.calls k (IntKind.u64.wrap (a0_0)) 4 t201 _ A2.out).mono ?_); rintro e w32 ⟨v202, rfl, ho0, hb⟩; refine ⟨_, rfl, ?_⟩; have n0_ := Aside0.mk (Kd.R_elder' (by (with_reducible repeat (first | apply Kd.R_alloc | apply Kd.R_drewN | apply Kd.R_drew)); exact HO200.out) (Kd.R_base ho0) hb); have n1_ := Aside0.mk (Kd.R_lower (Kd.R_new' ho0 (Kd.R_lt (by (with_reducible repeat (first | apply Kd.R_alloc | apply Kd.R_drewN | apply Kd.R_drew)); exact HO200.out))) (below_size (by repeat (first | (with_reducible first | exact HB.out | apply below_alloc | apply pw_below_drewN | apply below_drew1 | refine below_set ?_ GE197.out) | exact HB.out)))); have n2_ := Aside0.mk (blk_below (g := gb197) (o := .cells #[.int .u32 a0_0, .int .u32 a0_1, .bool false, .int .u64 a0_3] 55 (0, 0)) (by (with_reducible repeat (first | refine blk_drewN ?_ _ | refine blk_drew ?_ | refine blk_alloc ?_ _)); exact BK197.out) hb); have n3_ := Aside0.mk (below_step (by repeat (first | (with_reducible first | exact HB.out | apply below_alloc | apply pw_below_drewN | apply below_drew1 | refine below_set ?_ GE197.out) | exact HB.out)) hb); clear HO200; clear BK197; clear HB; have HO200 := n0_; have HO203 := n1_; have BK197 := n2_; have HB := n3_; clear n0_ n1_ n2_ n3_; (try clear hb); (try clear hb2); (try clear hk); (try clear hi); (try clear ho0); obtain ⟨Ao34, co34, eo34⟩ := Kd.R_slice HO203.out; subst eo34) | ((with_reducible refine gate_builtin (b := .append) (xs := #[.tmp 5, .tmp 9]) rfl ?_); at_builtin; refine Kd.R_append_rows (Kd.int .u8) (w0 := w) w.heap.size rfl (.tmp 5) (.tmp 9) 23 5 (.int .u8 0) 1 rfl Tryd.underlying23 info5 rfl (by decide) (by omega) v199 y198 t201 _ _ _ (fun k_ => some k_ ≠ (.slice Ao34 t201.length co34 : Value).ownBlock) (fun _ => False) rfl rfl ?aO ?aR (fun _ _ h => h) (fun _ h => h.elim) ?aF ?aB ?aS ?aL ?_; (case aR => repeat (first | exact (Kd.R_reads' HO203.out).2.2 | (with_reducible refine Kd.C_alloc ?_ _) | (with_reducible refine Kd.C_drewN ?_ _) | (with_reducible refine Kd.C_drew ?_))); (case aB => exact (by repeat (first | (with_reducible first | exact HB.out | apply below_alloc | apply pw_below_drewN | apply below_drew1 | refine below_set ?_ GE197.out) | exact HB.out))); (case aF => exact (fun k_ hk => Kd.fresh' (Kd.R_lt (by (with_reducible repeat (first | apply Kd.R_alloc | apply Kd.R_drewN | apply Kd.R_drew)); exact HO203.out)) k_ hk)); (case aO => exact (by (with_reducible repeat (first | apply Kd.R_alloc | apply Kd.R_drewN | apply Kd.R_drew)); exact Kd.R_mono HO200.out (fun _ hk => hk.2))); (case aS => exact (below_size (by repeat (first | (with_reducible first | exact HB.out | apply below_alloc | apply pw_below_drewN | apply below_drew1 | refine below_set ?_ GE197.out) | exact HB.out)))); (case aL => have := LMc3.out; omega); intro v205 w33 ho hb hg hat; rw [← Ny204.out] at ho; have n0_ := Aside0.mk (blk_grown (g := gb197) (o := .cells #[.int .u32 a0_0, .int .u32 a0_1, .bool false, .int .u64 a0_3] 55 (0, 0)) (by (with_reducible repeat (first | refine blk_drewN ?_ _ | refine blk_drew ?_ | refine blk_alloc ?_ _)); exact BK197.out) hg (Kd.R_ne HO200.out BK197.out (by decide))); have n1_ := Aside0.mk (Kd.R_after (ok := (fun _ => True)) (by (with_reducible repeat (first | apply Kd.R_alloc | apply Kd.R_drewN | apply Kd.R_drew)); exact HO203.out) hg hat); have n2_ := Aside0.mk (hb); have n3_ := Aside0.mk (ho); clear BK197; clear HO203; clear HB; clear HO200; have BK197 := n0_; have HO203 := n1_; have HB := n2_; have HO206 := n3_; clear n0_ n1_ n2_ n3_; clear ho hb hg hat; have hcz35_0 : w33.cell? ⟨gb197, 0, none⟩ = some (.int .u32 a0_0) := (blk_cell BK197.out 0).trans rfl; have hcz35_1 : w33.cell? ⟨gb197, 1, none⟩ = some (.int .u32 a0_1) := (blk_cell BK197.out 1).trans rfl; have hcz35_2 : w33.cell? ⟨gb197, 2, none⟩ = some (.bool false) := (blk_cell BK197.out 2).trans rfl; have hcz35_3 : w33.cell? ⟨gb197, 3, none⟩ = some (.int .u64 a0_3) := (blk_cell BK197.out 3).trans rfl; have hfz35_0 := blk_frozen BK197.out 0; have hfz35_1 := blk_frozen BK197.out 1; have hfz35_2 := blk_frozen BK197.out 2; have hfz35_3 := blk_frozen BK197.out 3) | ((with_reducible refine gate_callee (f := 48) rfl ?_); refine goesL_ (some 15) rfl rfl Tryd.func48 (by kernel_rfl) rfl #[.int .u64 (IntKind.u64.wrap (a0_1)), .int .i64 4] rfl (by (try simp only [List.map_toArray, List.map_cons, List.map_nil]); first | done | rfl | (simp only [List.length_drop, List.length_take]; rfl) | (simp only [List.length_drop, List.length_take]; (repeat rw [Nat.min_eq_left (by simp only [eq_iff_iff, iff_true] at *; omega)]); rfl)) ?_; (with_reducible refine (coamingref05_big.calls k (IntKind.u64.wrap (a0_1)) 4 t207 _ A4.out).mono ?_); rintro e w36 ⟨v208, rfl, ho0, hb⟩; refine ⟨_, rfl, ?_⟩; have n0_ := Aside0.mk (Kd.R_elder' (by (with_reducible repeat (first | apply Kd.R_alloc | apply Kd.R_drewN | apply Kd.R_drew)); exact HO203.out) (Kd.R_base ho0) hb); have n1_ := Aside0.mk (Kd.R_elder' (by (with_reducible repeat (first | apply Kd.R_alloc | apply Kd.R_drewN | apply Kd.R_drew)); exact HO206.out) (Kd.R_base ho0) hb); have n2_ := Aside0.mk (Kd.R_lower (Kd.R_new' (Kd.R_new' ho0 (Kd.R_lt (by (with_reducible repeat (first | apply Kd.R_alloc | apply Kd.R_drewN | apply Kd.R_drew)); exact HO203.out))) (Kd.R_lt (by (with_reducible repeat (first | apply Kd.R_alloc | apply Kd.R_drewN | apply Kd.R_drew)); exact HO206.out))) (below_size (by repeat (first | (with_reducible first | exact HB.out | apply below_alloc | apply pw_below_drewN | apply below_drew1 | refine below_set ?_ GE197.out) | exact HB.out)))); have n3_ := Aside0.mk (blk_below (g := gb197) (o := .cells #[.int .u32 a0_0, .int .u32 a0_1, .bool false, .int .u64 a0_3] 55 (0, 0)) (by (with_reducible repeat (first | refine blk_drewN ?_ _ | refine blk_drew ?_ | refine blk_alloc ?_ _)); exact BK197.out) hb); have n4_ := Aside0.mk (below_step (by repeat (first | (with_reducible first | exact HB.out | apply below_alloc | apply pw_below_drewN | apply below_drew1 | refine below_set ?_ GE197.out) | exact HB.out)) hb); clear HO203; clear HO206; clear BK197; clear HB; have HO203 := n0_; have HO206 := n1_; have HO209 := n2_; have BK197 := n3_; have HB := n4_; clear n0_ n1_ n2_ n3_ n4_; (try clear hb); (try clear hb2); (try clear hk); (try clear hi); (try clear ho0); obtain ⟨Ao38, co38, eo38⟩ := Kd.R_slice HO209.out; subst eo38) | ((with_reducible refine gate_builtin (b := .append) (xs := #[.tmp 11, .tmp 15]) rfl ?_); at_builtin; refine Kd.R_append_rows (Kd.int .u8) (w0 := w) w.heap.size rfl (.tmp 11) (.tmp 15) 23 5 (.int .u8 0) 1 rfl Tryd.underlying23 info5 rfl (by decide) (by omega) v205 y204 t207 _ _ _ (fun k_ => some k_ ≠ (.slice Ao34 t201.length co34 : Value).ownBlock ∧ some k_ ≠ (.slice Ao38 t207.length co38 : Value).ownBlock) (fun _ => False) rfl rfl ?aO ?aR (fun _ _ h => h) (fun _ h => h.elim) ?aF ?aB ?aS ?aL ?_; (case aR => repeat (first | exact (Kd.R_reads' HO209.out).2.2 | (with_reducible refine Kd.C_alloc ?_ _) | (with_reducible refine Kd.C_drewN ?_ _) | (with_reducible refine Kd.C_drew ?_))); (case aB => exact (by repeat (first | (with_reducible first | exact HB.out | apply below_alloc | apply pw_below_drewN | apply below_drew1 | refine below_set ?_ GE197.out) | exact HB.out))); (case aF => exact (fun k_ hk => ⟨Kd.fresh' (Kd.R_lt (by (with_reducible repeat (first | apply Kd.R_alloc | apply Kd.R_drewN | apply Kd.R_drew)); exact HO203.out)) k_ hk, Kd.fresh' (Kd.R_lt (by (with_reducible repeat (first | apply Kd.R_alloc | apply Kd.R_drewN | apply Kd.R_drew)); exact HO209.out)) k_ hk⟩)); (case aO => exact (by (with_reducible repeat (first | apply Kd.R_alloc | apply Kd.R_drewN | apply Kd.R_drew)); exact HO206.out)); (case aS => exact (below_size (by repeat (first | (with_reducible first | exact HB.out | apply below_alloc | apply pw_below_drewN | apply below_drew1 | refine below_set ?_ GE197.out) | exact HB.out)))); (case aL => have := LMc5.out; omega); intro v211 w37 ho hb hg hat; rw [← Ny210.out] at ho; have n0_ := Aside0.mk (blk_grown (g := gb197) (o := .cells #[.int .u32 a0_0, .int .u32 a0_1, .bool false, .int .u64 a0_3] 55 (0, 0)) (by (with_reducible repeat (first | refine blk_drewN ?_ _ | refine blk_drew ?_ | refine blk_alloc ?_ _)); exact BK197.out) hg (Kd.R_ne HO206.out BK197.out (by decide))); have n1_ := Aside0.mk (Kd.R_after (ok := (fun k_ => some k_ ≠ (.slice Ao38 t207.length co38 : Value).ownBlock)) (by (with_reducible repeat (first | apply Kd.R_alloc | apply Kd.R_drewN | apply Kd.R_drew)); exact Kd.R_mono HO203.out (fun _ hk => ⟨hk.2, hk.1.2⟩)) hg hat); have n2_ := Aside0.mk (Kd.R_after (ok := (fun k_ => some k_ ≠ (.slice Ao34 t201.length co34 : Value).ownBlock)) (by (with_reducible repeat (first | apply Kd.R_alloc | apply Kd.R_drewN | apply Kd.R_drew)); exact Kd.R_mono HO209.out (fun _ hk => ⟨hk.1.2, hk.2⟩)) hg hat); have n3_ := Aside0.mk (hb); have n4_ := Aside0.mk (ho); clear BK197; clear HO203; clear HO209; clear HB; clear HO206; have BK197 := n0_; have HO203 := n1_; have HO209 := n2_; have HB := n3_; have HO212 := n4_; clear n0_ n1_ n2_ n3_ n4_; clear ho hb hg hat; have hcz39_0 : w37.cell? ⟨gb197, 0, none⟩ = some (.int .u32 a0_0) := (blk_cell BK197.out 0).trans rfl; have hcz39_1 : w37.cell? ⟨gb197, 1, none⟩ = some (.int .u32 a0_1) := (blk_cell BK197.out 1).trans rfl; have hcz39_2 : w37.cell? ⟨gb197, 2, none⟩ = some (.bool false) := (blk_cell BK197.out 2).trans rfl; have hcz39_3 : w37.cell? ⟨gb197, 3, none⟩ = some (.int .u64 a0_3) := (blk_cell BK197.out 3).trans rfl; have hfz39_0 := blk_frozen BK197.out 0; have hfz39_1 := blk_frozen BK197.out 1; have hfz39_2 := blk_frozen BK197.out 2; have hfz39_3 := blk_frozen BK197.out 3) | ((with_reducible refine gate_callee (f := 48) rfl ?_); refine goesL_ (some 20) rfl rfl Tryd.func48 (by kernel_rfl) rfl #[.int .u64 a0_3, .int .i64 8] rfl (by (try simp only [List.map_toArray, List.map_cons, List.map_nil]); first | done | rfl | (simp only [List.length_drop, List.length_take]; rfl) | (simp only [List.length_drop, List.length_take]; (repeat rw [Nat.min_eq_left (by simp only [eq_iff_iff, iff_true] at *; omega)]); rfl)) ?_; (with_reducible refine (coamingref05_big.calls k a0_3 8 t213 _ A6.out).mono ?_); rintro e w40 ⟨v214, rfl, ho0, hb⟩; refine ⟨_, rfl, ?_⟩; have n0_ := Aside0.mk (Kd.R_elder' (by (with_reducible repeat (first | apply Kd.R_alloc | apply Kd.R_drewN | apply Kd.R_drew)); exact HO203.out) (Kd.R_base ho0) hb); have n1_ := Aside0.mk (Kd.R_elder' (by (with_reducible repeat (first | apply Kd.R_alloc | apply Kd.R_drewN | apply Kd.R_drew)); exact HO209.out) (Kd.R_base ho0) hb); have n2_ := Aside0.mk (Kd.R_elder' (by (with_reducible repeat (first | apply Kd.R_alloc | apply Kd.R_drewN | apply Kd.R_drew)); exact HO212.out) (Kd.R_base ho0) hb); have n3_ := Aside0.mk (Kd.R_lower (Kd.R_new' (Kd.R_new' (Kd.R_new' ho0 (Kd.R_lt (by (with_reducible repeat (first | apply Kd.R_alloc | apply Kd.R_drewN | apply Kd.R_drew)); exact HO203.out))) (Kd.R_lt (by (with_reducible repeat (first | apply Kd.R_alloc | apply Kd.R_drewN | apply Kd.R_drew)); exact HO209.out))) (Kd.R_lt (by (with_reducible repeat (first | apply Kd.R_alloc | apply Kd.R_drewN | apply Kd.R_drew)); exact HO212.out))) (below_size (by repeat (first | (with_reducible first | exact HB.out | apply below_alloc | apply pw_below_drewN | apply below_drew1 | refine below_set ?_ GE197.out) | exact HB.out)))); have n4_ := Aside0.mk (blk_below (g := gb197) (o := .cells #[.int .u32 a0_0, .int .u32 a0_1, .bool false, .int .u64 a0_3] 55 (0, 0)) (by (with_reducible repeat (first | refine blk_drewN ?_ _ | refine blk_drew ?_ | refine blk_alloc ?_ _)); exact BK197.out) hb); have n5_ := Aside0.mk (below_step (by repeat (first | (with_reducible first | exact HB.out | apply below_alloc | apply pw_below_drewN | apply below_drew1 | refine below_set ?_ GE197.out) | exact HB.out)) hb); clear HO203; clear HO209; clear HO212; clear BK197; clear HB; have HO203 := n0_; have HO209 := n1_; have HO212 := n2_; have HO215 := n3_; have BK197 := n4_; have HB := n5_; clear n0_ n1_ n2_ n3_ n4_ n5_; (try clear hb); (try clear hb2); (try clear hk); (try clear hi); (try clear ho0); obtain ⟨Ao42, co42, eo42⟩ := Kd.R_slice HO215.out; subst eo42) | ((with_reducible refine gate_builtin (b := .append) (xs := #[.tmp 17, .tmp 20]) rfl ?_); at_builtin; refine Kd.R_append_rows (Kd.int .u8) (w0 := w) w.heap.size rfl (.tmp 17) (.tmp 20) 23 5 (.int .u8 0) 1 rfl Tryd.underlying23 info5 rfl (by decide) (by omega) v211 y210 t213 _ _ _ (fun k_ => some k_ ≠ (.slice Ao34 t201.length co34 : Value).ownBlock ∧ some k_ ≠ (.slice Ao38 t207.length co38 : Value).ownBlock ∧ some k_ ≠ (.slice Ao42 t213.length co42 : Value).ownBlock) (fun _ => False) rfl rfl ?aO ?aR (fun _ _ h => h) (fun _ h => h.elim) ?aF ?aB ?aS ?aL ?_; (case aR => repeat (first | exact (Kd.R_reads' HO215.out).2.2 | (with_reducible refine Kd.C_alloc ?_ _) | (with_reducible refine Kd.C_drewN ?_ _) | (with_reducible refine Kd.C_drew ?_))); (case aB => exact (by repeat (first | (with_reducible first | exact HB.out | apply below_alloc | apply pw_below_drewN | apply below_drew1 | refine below_set ?_ GE197.out) | exact HB.out))); (case aF => exact (fun k_ hk => ⟨Kd.fresh' (Kd.R_lt (by (with_reducible repeat (first | apply Kd.R_alloc | apply Kd.R_drewN | apply Kd.R_drew)); exact HO203.out)) k_ hk, Kd.fresh' (Kd.R_lt (by (with_reducible repeat (first | apply Kd.R_alloc | apply Kd.R_drewN | apply Kd.R_drew)); exact HO209.out)) k_ hk, Kd.fresh' (Kd.R_lt (by (with_reducible repeat (first | apply Kd.R_alloc | apply Kd.R_drewN | apply Kd.R_drew)); exact HO215.out)) k_ hk⟩)); (case aO => exact (by (with_reducible repeat (first | apply Kd.R_alloc | apply Kd.R_drewN | apply Kd.R_drew)); exact Kd.R_mono HO212.out (fun _ hk => ⟨hk.1.1, ⟨hk.1.2, hk.2⟩⟩))); (case aS => exact (below_size (by repeat (first | (with_reducible first | exact HB.out | apply below_alloc | apply pw_below_drewN | apply below_drew1 | refine below_set ?_ GE197.out) | exact HB.out)))); (case aL => have := LMc7.out; omega); intro v217 w41 ho hb hg hat; rw [← Ny216.out] at ho; have n0_ := Aside0.mk (blk_grown (g := gb197) (o := .cells #[.int .u32 a0_0, .int .u32 a0_1, .bool false, .int .u64 a0_3] 55 (0, 0)) (by (with_reducible repeat (first | refine blk_drewN ?_ _ | refine blk_drew ?_ | refine blk_alloc ?_ _)); exact BK197.out) hg (Kd.R_ne HO212.out BK197.out (by decide))); have n1_ := Aside0.mk (Kd.R_after (ok := (fun k_ => some k_ ≠ (.slice Ao38 t207.length co38 : Value).ownBlock ∧ some k_ ≠ (.slice Ao42 t213.length co42 : Value).ownBlock)) (by (with_reducible repeat (first | apply Kd.R_alloc | apply Kd.R_drewN | apply Kd.R_drew)); exact Kd.R_mono HO203.out (fun _ hk => ⟨⟨hk.1.1, hk.2⟩, hk.1.2⟩)) hg hat); have n2_ := Aside0.mk (Kd.R_after (ok := (fun k_ => some k_ ≠ (.slice Ao34 t201.length co34 : Value).ownBlock ∧ some k_ ≠ (.slice Ao42 t213.length co42 : Value).ownBlock)) (by (with_reducible repeat (first | apply Kd.R_alloc | apply Kd.R_drewN | apply Kd.R_drew)); exact Kd.R_mono HO209.out (fun _ hk => ⟨⟨hk.1.1, hk.2⟩, hk.1.2⟩)) hg hat); have n3_ := Aside0.mk (Kd.R_after (ok := (fun k_ => some k_ ≠ (.slice Ao34 t201.length co34 : Value).ownBlock ∧ some k_ ≠ (.slice Ao38 t207.length co38 : Value).ownBlock)) (by (with_reducible repeat (first | apply Kd.R_alloc | apply Kd.R_drewN | apply Kd.R_drew)); exact Kd.R_mono HO215.out (fun _ hk => ⟨⟨hk.1.1.2, hk.1.2⟩, hk.2⟩)) hg hat); have n4_ := Aside0.mk (hb); have n5_ := Aside0.mk (ho); clear BK197; clear HO203; clear HO209; clear HO215; clear HB; clear HO212; have BK197 := n0_; have HO203 := n1_; have HO209 := n2_; have HO215 := n3_; have HB := n4_; have HO218 := n5_; clear n0_ n1_ n2_ n3_ n4_ n5_; clear ho hb hg hat; have hcz43_0 : w41.cell? ⟨gb197, 0, none⟩ = some (.int .u32 a0_0) := (blk_cell BK197.out 0).trans rfl; have hcz43_1 : w41.cell? ⟨gb197, 1, none⟩ = some (.int .u32 a0_1) := (blk_cell BK197.out 1).trans rfl; have hcz43_2 : w41.cell? ⟨gb197, 2, none⟩ = some (.bool false) := (blk_cell BK197.out 2).trans rfl; have hcz43_3 : w41.cell? ⟨gb197, 3, none⟩ = some (.int .u64 a0_3) := (blk_cell BK197.out 3).trans rfl; have hfz43_0 := blk_frozen BK197.out 0; have hfz43_1 := blk_frozen BK197.out 1; have hfz43_2 := blk_frozen BK197.out 2; have hfz43_3 := blk_frozen BK197.out 3) | ((with_reducible refine gate_builtin (b := .append) (xs := #[.tmp 27, .tmp 28]) rfl ?_); at_builtin; refine Kd.R_append (Kd.int .u8) (w0 := w) w.heap.size rfl (.tmp 27) (.tmp 28) 23 5 (.int .u8 0) 1 rfl Tryd.underlying23 info5 rfl (by decide) (by omega) v217 y216 0 [.int .u8 0] (fun k_ => some k_ ≠ (.slice Ao34 t201.length co34 : Value).ownBlock ∧ some k_ ≠ (.slice Ao38 t207.length co38 : Value).ownBlock ∧ some k_ ≠ (.slice Ao42 t213.length co42 : Value).ownBlock) (fun _ => False) rfl rfl ?aP (fun _ hk => hk.elim) ?aF ?aO ?aB ?aS ?aL ?_; (case aP => exact rfl); (case aB => exact (by repeat (first | (with_reducible first | exact HB.out | apply below_alloc | apply pw_below_drewN | apply below_drew1 | refine below_set ?_ GE197.out) | exact HB.out))); (case aF => exact (fun k_ hk => ⟨Kd.fresh' (Kd.R_lt (by (with_reducible repeat (first | apply Kd.R_alloc | apply Kd.R_drewN | apply Kd.R_drew)); exact HO203.out)) k_ hk, Kd.fresh' (Kd.R_lt (by (with_reducible repeat (first | apply Kd.R_alloc | apply Kd.R_drewN | apply Kd.R_drew)); exact HO209.out)) k_ hk, Kd.fresh' (Kd.R_lt (by (with_reducible repeat (first | apply Kd.R_alloc | apply Kd.R_drewN | apply Kd.R_drew)); exact HO215.out)) k_ hk⟩)); (case aO => exact (by (with_reducible repeat (first | apply Kd.R_alloc | apply Kd.R_drewN | apply Kd.R_drew)); exact HO218.out)); (case aS => exact (below_size (by repeat (first | (with_reducible first | exact HB.out | apply below_alloc | apply pw_below_drewN | apply below_drew1 | refine below_set ?_ GE197.out) | exact HB.out)))); (case aL => have := LMc27.out; omega); intro v223 w44 ho hb hg hat; rw [← Ny222.out] at ho; have n0_ := Aside0.mk (blk_grown (g := gb197) (o := .cells #[.int .u32 a0_0, .int .u32 a0_1, .bool false, .int .u64 a0_3] 55 (0, 0)) (by (with_reducible repeat (first | refine blk_drewN ?_ _ | refine blk_drew ?_ | refine blk_alloc ?_ _)); exact BK197.out) hg (Kd.R_ne HO218.out BK197.out (by decide))); have n1_ := Aside0.mk (Kd.R_after (ok := (fun k_ => some k_ ≠ (.slice Ao38 t207.length co38 : Value).ownBlock ∧ some k_ ≠ (.slice Ao42 t213.length co42 : Value).ownBlock)) (by (with_reducible repeat (first | apply Kd.R_alloc | apply Kd.R_drewN | apply Kd.R_drew)); exact HO203.out) hg hat); have n2_ := Aside0.mk (Kd.R_after (ok := (fun k_ => some k_ ≠ (.slice Ao34 t201.length co34 : Value).ownBlock ∧ some k_ ≠ (.slice Ao42 t213.length co42 : Value).ownBlock)) (by (with_reducible repeat (first | apply Kd.R_alloc | apply Kd.R_drewN | apply Kd.R_drew)); exact HO209.out) hg hat); have n3_ := Aside0.mk (Kd.R_after (ok := (fun k_ => some k_ ≠ (.slice Ao34 t201.length co34 : Value).ownBlock ∧ some k_ ≠ (.slice Ao38 t207.length co38 : Value).ownBlock)) (by (with_reducible repeat (first | apply Kd.R_alloc | apply Kd.R_drewN | apply Kd.R_drew)); exact HO215.out) hg hat); have n4_ := Aside0.mk (hb); have n5_ := Aside0.mk (ho); clear BK197; clear HO203; clear HO209; clear HO215; clear HB; clear HO218; have BK197 := n0_; have HO203 := n1_; have HO209 := n2_; have HO215 := n3_; have HB := n4_; have HO224 := n5_; clear n0_ n1_ n2_ n3_ n4_ n5_; clear ho hb hg hat))
      go_ret
      exact ⟨_, by first | rfl | (simp [errW_none, errW_some] <;> rfl) | (simp [*, errW_none, errW_some] <;> rfl), by (with_reducible repeat (first | apply Kd.R_alloc | apply Kd.R_drewN | apply Kd.R_drew)); exact Kd.R_mono HO224.out (fun _ hk => trivial), by repeat (first | (with_reducible first | exact HB.out | apply below_alloc | apply pw_below_drewN | apply below_drew1 | refine below_set ?_ GE197.out) | exact HB.out)⟩
     ·rw [if_neg c27] at H
      exact absurd H (by simp)
   ·rw [if_neg c7] at H
    exact absurd H (by simp)
  ·rw [if_neg c5] at H
   exact absurd H (by simp)
 ·rw [if_neg c3] at H
  exact absurd H (by simp)
def slices_Index_uint32_uint32.l0 : Nat → List Int → Int → Int → Int → Option (Int)
 | 0, _, _, _, _ => none
 | k + 1, x0, x1, x7, x8 => if x8 < x7 then (if 0 ≤ x8 then (if x8 < (x0.length : Int) then (if x1 = (rd x0 x8) then (some x8) else (slices_Index_uint32_uint32.l0 k x0 x1 x7 (wrap64 (x8 + 1)))) else (none)) else (none)) else (some (-1))
def slices_Index_uint32_uint32.f (k : Nat) (l0 : List Int) (a1 : Int) : Option (Int) := slices_Index_uint32_uint32.l0 k l0 a1 (l0.length : Int) 0
set_option maxHeartbeats 8000000 in
set_option maxRecDepth 100000 in
theorem slices_Index_uint32_uint32.calls (k : Nat) (A0 : Option Addr) (c0 : Nat) (l0 : List Int) (a1 : Int) (r : Int) (w : World) (hr0 : Kd.C (Kd.int .u32) w A0 l0.length l0) (hc0 : l0.length ≤ c0) (h : slices_Index_uint32_uint32.f k l0 a1 = some r) :
  Calls Tryd.prog 63 #[.slice A0 l0.length c0, .int .u32 a1] w fun e w' => e = .returned (.int .i64 r) ∧ Drawn0 w w' := by
 have HR0 := Aside0.mk hr0
 have HC0 := Aside0.mk hc0
 clear hr0 hc0
 have H : (slices_Index_uint32_uint32.l0 k l0 a1 (l0.length : Int) 0) = some r := h
 clear h
 have H' := Aside0.mk H
 clear H
 go_enter Tryd.func63, Tryd.ntmps63
 go_wp2
 go_loopg [8] k (fun kq v8 w' => ∃ (x8_1 : Int), v8 = .int .i64 x8_1 ∧ Aside0 (slices_Index_uint32_uint32.l0 kq l0 a1 (l0.length : Int) x8_1 = some r) ∧ Aside0 (kq ≤ k) ∧ Drawn0 w w')
 case atStart => exact ⟨(0), (by first | rfl | (simp; done) | (simp [*]; done)), H', ⟨Nat.le_refl _⟩, by repeat (first | exact Drawn0.refl _ | apply Drawn0.step)⟩
 case round =>
  clear H'
  try clear p2
  obtain ⟨x8_1, rfl, HA, HK1, ⟨m1, rfl⟩⟩ := hrel
  cases gk with
  | zero => exact absurd HA.out (by simp [slices_Index_uint32_uint32.l0])
  | succ k1 =>
   have H := HA.out
   clear HA
   simp only [slices_Index_uint32_uint32.l0] at H
   by_cases c3 : x8_1 < (l0.length : Int)
   ·rw [if_pos c3] at H
    have c3b0 : decide (x8_1 < (l0.length : Int)) = true := decide_eq_true c3
    clear c3
    by_cases c4 : 0 ≤ x8_1
    ·rw [if_pos c4] at H
     have c4b0 : decide (0 ≤ x8_1) = true := decide_eq_true c4
     clear c4
     by_cases c5 : x8_1 < (l0.length : Int)
     ·rw [if_pos c5] at H
      have c5b0 : decide (x8_1 < (l0.length : Int)) = true := decide_eq_true c5
      clear c5
      by_cases c6 : a1 = (rd l0 x8_1)
      ·rw [if_pos c6] at H
       have c6b0 : (a1 == (rd l0 x8_1)) = true := beq_iff_eq.mpr c6
       have c6b1 : (a1 != (rd l0 x8_1)) = false := bne_eq_false_iff_eq.mpr c6
       clear c6
       obtain rfl := Option.some.inj H
       have p227 : 0 ≤ (x8_1 : Int) := of_decide_eq_true (by first | (with_reducible assumption) | assumption)
       have q227 : x8_1 < (l0.length : Int) := of_decide_eq_true (by first | (with_reducible assumption) | assumption)
       obtain ⟨ad227, e227, hx227_0⟩ := Kd.at_int HR0.out x8_1 p227 q227
       cases e227
       replace p227 := eq_true p227
       replace q227 := eq_true q227
       go_wp2
       go_ret
       exact ⟨by first | rfl | (simp; done) | (simp [*]; done), by repeat (first | exact Drawn0.refl _ | apply Drawn0.step)⟩
      ·rw [if_neg c6] at H
       have c6b0 : (a1 == (rd l0 x8_1)) = false := beq_eq_false_iff_ne.mpr c6
       have c6b1 : (a1 != (rd l0 x8_1)) = true := bne_iff_ne.mpr c6
       have H' := Aside0.mk H
       clear H
       have p227 : 0 ≤ (x8_1 : Int) := of_decide_eq_true (by first | (with_reducible assumption) | assumption)
       have q227 : x8_1 < (l0.length : Int) := of_decide_eq_true (by first | (with_reducible assumption) | assumption)
       obtain ⟨ad227, e227, hx227_0⟩ := Kd.at_int HR0.out x8_1 p227 q227
       cases e227
       replace p227 := eq_true p227
       replace q227 := eq_true q227
       go_wp2
       go_roundg k1
       case measure => have := HK1.out; omega
       case rel => exact ⟨(wrap64 (x8_1 + 1)), (by first | rfl | (simp; done) | (simp [*]; done)), H', ⟨by have := HK1.out; omega⟩, by repeat (first | exact Drawn0.refl _ | apply Drawn0.step)⟩
     ·rw [if_neg c5] at H
      exact absurd H (by simp)
    ·rw [if_neg c4] at H
     exact absurd H (by simp)
   ·rw [if_neg c3] at H
    have c3b0 : decide (x8_1 < (l0.length : Int)) = false := decide_eq_false c3
    clear c3
    obtain rfl := Option.some.inj H
    go_wp2
    go_ret
    exact ⟨by first | rfl | (simp; done) | (simp [*]; done), by repeat (first | exact Drawn0.refl _ | apply Drawn0.step)⟩
def slices_Contains_uint32_uint32.f (k : Nat) (l0 : List Int) (a1 : Int) : Option (Bool) := (slices_Index_uint32_uint32.f k l0 a1).bind fun t228 => (some (decide (t228 ≥ 0)))
set_option maxHeartbeats 8000000 in
set_option maxRecDepth 100000 in
theorem slices_Contains_uint32_uint32.calls (k : Nat) (A0 : Option Addr) (c0 : Nat) (l0 : List Int) (a1 : Int) (r : Bool) (w : World) (hr0 : Kd.C (Kd.int .u32) w A0 l0.length l0) (hc0 : l0.length ≤ c0) (h : slices_Contains_uint32_uint32.f k l0 a1 = some r) :
  Calls Tryd.prog 46 #[.slice A0 l0.length c0, .int .u32 a1] w fun e w' => e = .returned (.bool r) ∧ Drawn0 w w' := by
 have HR0 := Aside0.mk hr0
 have HC0 := Aside0.mk hc0
 clear hr0 hc0
 have H : ((slices_Index_uint32_uint32.f k l0 a1).bind fun t228 => (some (decide (t228 ≥ 0)))) = some r := h
 clear h
 replace H := Option.bind_eq_some_iff.mp H
 obtain ⟨t228, A30, H⟩ := H
 replace H : (some (decide (t228 ≥ 0))) = some r := H
 have A3 := Aside0.mk A30
 clear A30
 obtain rfl := Option.some.inj H
 go_enter Tryd.func46, Tryd.ntmps46
 go_wp2_with (first | ((with_reducible refine gate_callee (f := 63) rfl ?_); refine goesL_ (some 7) rfl rfl Tryd.func63 (by kernel_rfl) rfl #[.slice A0 l0.length c0, .int .u32 a1] rfl (by (try simp only [List.map_toArray, List.map_cons, List.map_nil]); first | done | rfl | (simp only [List.length_drop, List.length_take]; rfl) | (simp only [List.length_drop, List.length_take]; (repeat rw [Nat.min_eq_left (by simp only [eq_iff_iff, iff_true] at *; omega)]); rfl)) ?_; (with_reducible refine (slices_Index_uint32_uint32.calls k _ _ l0 a1 t228 _ ?side1 ?side2 A3.out).mono ?_); (case side1 => repeat (first | exact HR0.out | (with_reducible refine Kd.C_alloc ?_ _) | (with_reducible refine Kd.C_drewN ?_ _) | (with_reducible refine Kd.C_drew ?_))); (case side2 => exact HC0.out); rintro e w' ⟨rfl, ⟨nd, rfl⟩⟩; refine ⟨_, rfl, ?_⟩))
 go_ret
 exact ⟨by first | rfl | (simp; done) | (simp [*]; done), by repeat (first | exact Drawn0.refl _ | apply Drawn0.step)⟩
end Go.Proofs.YtgljicdpcapgnaaDoor.PBase
namespace Go.Proofs.YtgljicdpcapgnaaDoor.PBase
open Go.RowKit Go.Proofs.YtgljicdpcapgnaaDoorW.PrintWords Go.Proofs.YtgljicdpcapgnaaDoorW.PrintLast Go.Proofs.YtgljicdpcapgnaaDoorW.PrintMore
attribute [local go_sem] max2_int min2_int max_two min_two max_three min_three max_four min_four   -- for this text's walks alone
set_option linter.unusedVariables false
set_option linter.unusedSimpArgs false
def slices_Index_uint16_uint16.l0 : Nat → List Int → Int → Int → Int → Option (Int)
 | 0, _, _, _, _ => none
 | k + 1, x0, x1, x7, x8 => if x8 < x7 then (if 0 ≤ x8 then (if x8 < (x0.length : Int) then (if x1 = (rd x0 x8) then (some x8) else (slices_Index_uint16_uint16.l0 k x0 x1 x7 (wrap64 (x8 + 1)))) else (none)) else (none)) else (some (-1))
def slices_Index_uint16_uint16.f (k : Nat) (l0 : List Int) (a1 : Int) : Option (Int) := slices_Index_uint16_uint16.l0 k l0 a1 (l0.length : Int) 0
set_option maxHeartbeats 8000000 in
set_option maxRecDepth 100000 in
theorem slices_Index_uint16_uint16.calls (k : Nat) (A0 : Option Addr) (c0 : Nat) (l0 : List Int) (a1 : Int) (r : Int) (w : World) (hr0 : Kd.C (Kd.int .u16) w A0 l0.length l0) (hc0 : l0.length ≤ c0) (h : slices_Index_uint16_uint16.f k l0 a1 = some r) :
  Calls Tryd.prog 91 #[.slice A0 l0.length c0, .int .u16 a1] w fun e w' => e = .returned (.int .i64 r) ∧ Drawn0 w w' := by
 have HR0 := Aside0.mk hr0
 have HC0 := Aside0.mk hc0
 clear hr0 hc0
 have H : (slices_Index_uint16_uint16.l0 k l0 a1 (l0.length : Int) 0) = some r := h
 clear h
 have H' := Aside0.mk H
 clear H
 go_enter Tryd.func91, Tryd.ntmps91
 go_wp2
 go_loopg [8] k (fun kq v8 w' => ∃ (x8_1 : Int), v8 = .int .i64 x8_1 ∧ Aside0 (slices_Index_uint16_uint16.l0 kq l0 a1 (l0.length : Int) x8_1 = some r) ∧ Aside0 (kq ≤ k) ∧ Drawn0 w w')
 case atStart => exact ⟨(0), (by first | rfl | (simp; done) | (simp [*]; done)), H', ⟨Nat.le_refl _⟩, by repeat (first | exact Drawn0.refl _ | apply Drawn0.step)⟩
 case round =>
  clear H'
  try clear p2
  obtain ⟨x8_1, rfl, HA, HK1, ⟨m1, rfl⟩⟩ := hrel
  cases gk with
  | zero => exact absurd HA.out (by simp [slices_Index_uint16_uint16.l0])
  | succ k1 =>
   have H := HA.out
   clear HA
   simp only [slices_Index_uint16_uint16.l0] at H
   by_cases c3 : x8_1 < (l0.length : Int)
   ·rw [if_pos c3] at H
    have c3b0 : decide (x8_1 < (l0.length : Int)) = true := decide_eq_true c3
    clear c3
    by_cases c4 : 0 ≤ x8_1
    ·rw [if_pos c4] at H
     have c4b0 : decide (0 ≤ x8_1) = true := decide_eq_true c4
     clear c4
     by_cases c5 : x8_1 < (l0.length : Int)
     ·rw [if_pos c5] at H
      have c5b0 : decide (x8_1 < (l0.length : Int)) = true := decide_eq_true c5
      clear c5
      by_cases c6 : a1 = (rd l0 x8_1)
      ·rw [if_pos c6] at H
       have c6b0 : (a1 == (rd l0 x8_1)) = true := beq_iff_eq.mpr c6
       have c6b1 : (a1 != (rd l0 x8_1)) = false := bne_eq_false_iff_eq.mpr c6
       clear c6
       obtain rfl := Option.some.inj H
       have p229 : 0 ≤ (x8_1 : Int) := of_decide_eq_true (by first | (with_reducible assumption) | assumption)
       have q229 : x8_1 < (l0.length : Int) := of_decide_eq_true (by first | (with_reducible assumption) | assumption)
       obtain ⟨ad229, e229, hx229_0⟩ := Kd.at_int HR0.out x8_1 p229 q229
       cases e229
       replace p229 := eq_true p229
       replace q229 := eq_true q229
       go_wp2
       go_ret
       exact ⟨by first | rfl | (simp; done) | (simp [*]; done), by repeat (first | exact Drawn0.refl _ | apply Drawn0.step)⟩
      ·rw [if_neg c6] at H
       have c6b0 : (a1 == (rd l0 x8_1)) = false := beq_eq_false_iff_ne.mpr c6
       have c6b1 : (a1 != (rd l0 x8_1)) = true := bne_iff_ne.mpr c6
       have H' := Aside0.mk H
       clear H
       have p229 : 0 ≤ (x8_1 : Int) := of_decide_eq_true (by first | (with_reducible assumption) | assumption)
       have q229 : x8_1 < (l0.length : Int) := of_decide_eq_true (by first | (with_reducible assumption) | assumption)
       obtain ⟨ad229, e229, hx229_0⟩ := Kd.at_int HR0.out x8_1 p229 q229
       cases e229
       replace p229 := eq_true p229
       replace q229 := eq_true q229
       go_wp2
       go_roundg k1
       case measure => have := HK1.out; omega
       case rel => exact ⟨(wrap64 (x8_1 + 1)), (by first | rfl | (simp; done) | (simp [*]; done)), H', ⟨by have := HK1.out; omega⟩, by repeat (first | exact Drawn0.refl _ | apply Drawn0.step)⟩
     ·rw [if_neg c5] at H
      exact absurd H (by simp)
    ·rw [if_neg c4] at H
     exact absurd H (by simp)
   ·rw [if_neg c3] at H
    have c3b0 : decide (x8_1 < (l0.length : Int)) = false := decide_eq_false c3
    clear c3
    obtain rfl := Option.some.inj H
    go_wp2
    go_ret
    exact ⟨by first | rfl | (simp; done) | (simp [*]; done), by repeat (first | exact Drawn0.refl _ | apply Drawn0.step)⟩
def slices_Contains_uint16_uint16.f (k : Nat) (l0 : List Int) (a1 : Int) : Option (Bool) := (slices_Index_uint16_uint16.f k l0 a1).bind fun t230 => (some (decide (t230 ≥ 0)))
set_option maxHeartbeats 8000000 in
set_option maxRecDepth 100000 in
theorem slices_Contains_uint16_uint16.calls (k : Nat) (A0 : Option Addr) (c0 : Nat) (l0 : List Int) (a1 : Int) (r : Bool) (w : World) (hr0 : Kd.C (Kd.int .u16) w A0 l0.length l0) (hc0 : l0.length ≤ c0) (h : slices_Contains_uint16_uint16.f k l0 a1 = some r) :
  Calls Tryd.prog 85 #[.slice A0 l0.length c0, .int .u16 a1] w fun e w' => e = .returned (.bool r) ∧ Drawn0 w w' := by
 have HR0 := Aside0.mk hr0
 have HC0 := Aside0.mk hc0
 clear hr0 hc0
 have H : ((slices_Index_uint16_uint16.f k l0 a1).bind fun t230 => (some (decide (t230 ≥ 0)))) = some r := h
 clear h
 replace H := Option.bind_eq_some_iff.mp H
 obtain ⟨t230, A30, H⟩ := H
 replace H : (some (decide (t230 ≥ 0))) = some r := H
 have A3 := Aside0.mk A30
 clear A30
 obtain rfl := Option.some.inj H
 go_enter Tryd.func85, Tryd.ntmps85
 go_wp2_with (first | ((with_reducible refine gate_callee (f := 91) rfl ?_); refine goesL_ (some 7) rfl rfl Tryd.func91 (by kernel_rfl) rfl #[.slice A0 l0.length c0, .int .u16 a1] rfl (by (try simp only [List.map_toArray, List.map_cons, List.map_nil]); first | done | rfl | (simp only [List.length_drop, List.length_take]; rfl) | (simp only [List.length_drop, List.length_take]; (repeat rw [Nat.min_eq_left (by simp only [eq_iff_iff, iff_true] at *; omega)]); rfl)) ?_; (with_reducible refine (slices_Index_uint16_uint16.calls k _ _ l0 a1 t230 _ ?side1 ?side2 A3.out).mono ?_); (case side1 => repeat (first | exact HR0.out | (with_reducible refine Kd.C_alloc ?_ _) | (with_reducible refine Kd.C_drewN ?_ _) | (with_reducible refine Kd.C_drew ?_))); (case side2 => exact HC0.out); rintro e w' ⟨rfl, ⟨nd, rfl⟩⟩; refine ⟨_, rfl, ?_⟩))
 go_ret
 exact ⟨by first | rfl | (simp; done) | (simp [*]; done), by repeat (first | exact Drawn0.refl _ | apply Drawn0.step)⟩
def greet_Next.f (l0 : List Int) : Option (Int × List Int × Int × Int) := if 0 ≤ (mn (l0.length : Int) 16) then (if (mn (l0.length : Int) 16) ≤ (l0.length : Int) then ((wire_Take.f (l0.take ((mn (l0.length : Int) 16) : Int).toNat) (([8, 4, 4] : List Int))).bind fun bt259 => (if bt259.2.2 = true then (if 0 < (bt259.1.length : Int) then (if (rd bt259.1 0) = 5280542401877725268 then (if 2 < (bt259.1.length : Int) then (if (rd bt259.1 2) > 1024 then (some (0, ([] : List Int), 0, 73)) else (if (wrap64 (16 + (wrap64 (rd bt259.1 2)))) > (l0.length : Int) then (some (0, ([] : List Int), 0, 70)) else (if 1 < (bt259.1.length : Int) then (if 16 ≤ (wrap64 (16 + (wrap64 (rd bt259.1 2)))) then (if (wrap64 (16 + (wrap64 (rd bt259.1 2)))) ≤ (l0.length : Int) then ((clone_.f ((l0.take ((wrap64 (16 + (wrap64 (rd bt259.1 2)))) : Int).toNat).drop 16)).bind fun t271 => (some ((rd bt259.1 1) % 4294967296, t271, wrap64 (16 + (wrap64 (rd bt259.1 2))), 0))) else (none)) else (none)) else (none)))) else (none)) else (some (0, ([] : List Int), 0, 71))) else (none)) else (some (0, ([] : List Int), 0, 70)))) else (none)) else (none)
end Go.Proofs.YtgljicdpcapgnaaDoor.PBase
namespace Go.Proofs.YtgljicdpcapgnaaDoor.PBase
open Go.RowKit Go.Proofs.YtgljicdpcapgnaaDoorW.PrintWords Go.Proofs.YtgljicdpcapgnaaDoorW.PrintLast Go.Proofs.YtgljicdpcapgnaaDoorW.PrintMore
attribute [local go_sem] max2_int min2_int max_two min_two max_three min_three max_four min_four   -- for this text's walks alone
set_option linter.unusedVariables false
set_option linter.unusedSimpArgs false
def req_form.f  : Option (List Int) := some (([4, 2, 2, 8, 8, 4] : List Int))
set_option maxHeartbeats 8000000 in
set_option maxRecDepth 100000 in
theorem req_form.calls  (r : List Int) (w : World) (h : req_form.f  = some r) :
  Calls Tryd.prog 87 #[] w fun e w' => ∃ v0_ : Value, e = .returned (v0_) ∧ Kd.R (Kd.int .i64) 3 w' w.heap.size (fun _ => True) v0_ r ∧ Below w.heap.size w w' := by
 have HB := Aside0.mk (Below.refl w.heap.size w)
 have H : (some (([4, 2, 2, 8, 8, 4] : List Int))) = some r := h
 clear h
 obtain ⟨y359, hy359⟩ : ∃ y_ : List Int, y_ = (([4, 2, 2, 8, 8, 4] : List Int)) := ⟨_, rfl⟩
 replace H : (some y359) = some r := by first | (rw [hy359]; with_reducible exact H) | (have H2_ := (Option.bind_some _ _).symm.trans H; rw [hy359]; with_reducible exact H2_) | (have H2_ := (Option.bind_some _ _).symm.trans H; with_reducible exact H2_) | with_reducible exact H | (rw [hy359]; exact H) | exact H
 have Ny359 := Aside0.mk hy359
 clear hy359
 obtain rfl := Option.some.inj H
 go_enter Tryd.func87, Tryd.ntmps87
 go_wp2_with (first | ((with_reducible refine gate_dst (N := 1) rfl ?_); refine Kd.R_lit (Kd.int .i64) _ 3 ?hg (N := 1) ?hd (xs := ([4, 2, 2, 8, 8, 4] : List Int)) (inner := [.int .i64 4, .int .i64 2, .int .i64 2, .int .i64 8, .int .i64 8, .int .i64 4]) (ok := fun _ => True) (okp := fun _ => True) ?hr ?hp (fun _ hk => hk) trivial (Below.refl _ _) (Nat.le_refl _) (by simp) ?_; (case hd => rfl); (case hg => rfl); (case hr => first | (go_simp; done) | (go_simp; rfl) | (go_simp; simp only [IntKind.wrap_u32, Int.emod_add_emod, Int.add_emod_emod])); (case hp => exact (Reps.one (show Kd.M (Kd.int .i64) _ _ _ 4 [.int .i64 4] from rfl) (Reps.one (show Kd.M (Kd.int .i64) _ _ _ 2 [.int .i64 2] from rfl) (Reps.one (show Kd.M (Kd.int .i64) _ _ _ 2 [.int .i64 2] from rfl) (Reps.one (show Kd.M (Kd.int .i64) _ _ _ 8 [.int .i64 8] from rfl) (Reps.one (show Kd.M (Kd.int .i64) _ _ _ 8 [.int .i64 8] from rfl) (Reps.one (show Kd.M (Kd.int .i64) _ _ _ 4 [.int .i64 4] from rfl) (Reps.none _ _)))))))); intro v360 w1 ho2 hb hg_ hnew_; clear hg_ hnew_; (first | rw [← Ny359.out] at ho2 | (simp only [Int.reduceToNat] at ho2; rw [← Ny359.out] at ho2)); have n0_ := Aside0.mk (Kd.R_lower ho2 (below_size (by repeat (first | (with_reducible first | exact HB.out | apply below_alloc | apply pw_below_drewN | apply below_drew1) | exact HB.out)))); have n1_ := Aside0.mk (below_step (by repeat (first | (with_reducible first | exact HB.out | apply below_alloc | apply pw_below_drewN | apply below_drew1) | exact HB.out)) hb); clear HB; have HO361 := n0_; have HB := n1_; clear n0_ n1_; clear hb ho2))
 go_ret
 exact ⟨_, by first | rfl | (simp [errW_none, errW_some] <;> rfl) | (simp [*, errW_none, errW_some] <;> rfl), by (with_reducible repeat (first | apply Kd.R_alloc | apply Kd.R_drewN | apply Kd.R_drew)); exact HO361.out, by repeat (first | (with_reducible first | exact HB.out | apply below_alloc | apply pw_below_drewN | apply below_drew1) | exact HB.out)⟩
def coamingref06_Width.f (a0 : Int) : Option (Int) := if a0 = 1 then (some a0) else (if a0 = 2 then (some a0) else (if a0 = 4 then (some a0) else (some 8)))
set_option maxHeartbeats 8000000 in
set_option maxRecDepth 100000 in
theorem coamingref06_Width.calls (a0 : Int) (r : Int) (w : World) (h : coamingref06_Width.f a0 = some r) :
  Calls Tryd.prog 50 #[.int .i64 a0] w fun e w' => e = .returned (.int .i64 r) ∧ Drawn0 w w' := by
 have H : (if a0 = 1 then (some a0) else (if a0 = 2 then (some a0) else (if a0 = 4 then (some a0) else (some 8)))) = some r := h
 clear h
 by_cases c2 : a0 = 1
 ·rw [if_pos c2] at H
  have c2b0 : (a0 == 1) = true := beq_iff_eq.mpr c2
  have c2b1 : (a0 != 1) = false := bne_eq_false_iff_eq.mpr c2
  clear c2
  obtain rfl := Option.some.inj H
  go_enter Tryd.func50, Tryd.ntmps50
  go_wp2
  go_ret
  exact ⟨by first | rfl | (simp; done) | (simp [*]; done), by repeat (first | exact Drawn0.refl _ | apply Drawn0.step)⟩
 ·rw [if_neg c2] at H
  have c2b0 : (a0 == 1) = false := beq_eq_false_iff_ne.mpr c2
  have c2b1 : (a0 != 1) = true := bne_iff_ne.mpr c2
  by_cases c3 : a0 = 2
  ·rw [if_pos c3] at H
   have c3b0 : (a0 == 2) = true := beq_iff_eq.mpr c3
   have c3b1 : (a0 != 2) = false := bne_eq_false_iff_eq.mpr c3
   clear c3
   obtain rfl := Option.some.inj H
   go_enter Tryd.func50, Tryd.ntmps50
   go_wp2
   go_ret
   exact ⟨by first | rfl | (simp; done) | (simp [*]; done), by repeat (first | exact Drawn0.refl _ | apply Drawn0.step)⟩
  ·rw [if_neg c3] at H
   have c3b0 : (a0 == 2) = false := beq_eq_false_iff_ne.mpr c3
   have c3b1 : (a0 != 2) = true := bne_iff_ne.mpr c3
   by_cases c4 : a0 = 4
   ·rw [if_pos c4] at H
    have c4b0 : (a0 == 4) = true := beq_iff_eq.mpr c4
    have c4b1 : (a0 != 4) = false := bne_eq_false_iff_eq.mpr c4
    clear c4
    obtain rfl := Option.some.inj H
    go_enter Tryd.func50, Tryd.ntmps50
    go_wp2
    go_ret
    exact ⟨by first | rfl | (simp; done) | (simp [*]; done), by repeat (first | exact Drawn0.refl _ | apply Drawn0.step)⟩
   ·rw [if_neg c4] at H
    have c4b0 : (a0 == 4) = false := beq_eq_false_iff_ne.mpr c4
    have c4b1 : (a0 != 4) = true := bne_iff_ne.mpr c4
    obtain rfl := Option.some.inj H
    go_enter Tryd.func50, Tryd.ntmps50
    go_wp2
    go_ret
    exact ⟨by first | rfl | (simp; done) | (simp [*]; done), by repeat (first | exact Drawn0.refl _ | apply Drawn0.step)⟩
end Go.Proofs.YtgljicdpcapgnaaDoor.PBase
namespace Go.Proofs.YtgljicdpcapgnaaDoor.PBase
open Go.RowKit Go.Proofs.YtgljicdpcapgnaaDoorW.PrintWords Go.Proofs.YtgljicdpcapgnaaDoorW.PrintLast Go.Proofs.YtgljicdpcapgnaaDoorW.PrintMore
attribute [local go_sem] max2_int min2_int max_two min_two max_three min_three max_four min_four   -- for this text's walks alone
set_option linter.unusedVariables false
set_option linter.unusedSimpArgs false
mutual
def coamingref06_Pack.l0 : Nat → List Int → List Int → List Int → Int → Option (List Int)
 | 0, _, _, _, _ => none
 | k + 1, x0, x1, x5, x6 => if x6 < (x0.length : Int) then (coamingref06_Pack.j1 k x0 x1 x5 x6 (decide (x6 < (x1.length : Int)))) else (coamingref06_Pack.j1 k x0 x1 x5 x6 false)
def coamingref06_Pack.j1 : Nat → List Int → List Int → List Int → Int → Bool → Option (List Int)
 | 0, _, _, _, _, _ => none
 | k + 1, x0, x1, x5, x6, x17 => if x17 = true then (if 0 ≤ x6 then (if x6 < (x0.length : Int) then ((coamingref06_Width.f (rd x0 x6)).bind fun t363 => (coamingref06_Pack.l1 k x0 x1 x5 x6 (wrap64 (t363 - 1)))) else (none)) else (none)) else (some x5)
def coamingref06_Pack.l1 : Nat → List Int → List Int → List Int → Int → Int → Option (List Int)
 | 0, _, _, _, _, _ => none
 | k + 1, x0, x1, x5, x6, x7 => if x7 ≥ 0 then (if 0 ≤ x6 then (if x6 < (x1.length : Int) then (if 0 ≤ (IntKind.u64.wrap (wrap64 (8 * x7))) then (if x5.length < 140737488355328 then (coamingref06_Pack.l1 k x0 x1 (x5 ++ [(shr .u64 (rd x1 x6) (IntKind.u64.wrap (wrap64 (8 * x7)))) % 256]) x6 (wrap64 (x7 - 1))) else (none)) else (none)) else (none)) else (none)) else (coamingref06_Pack.l0 k x0 x1 x5 (wrap64 (x6 + 1)))
end
def coamingref06_Pack.f (k : Nat) (l0 : List Int) (l1 : List Int) : Option (List Int) := coamingref06_Pack.l0 k l0 l1 ([] : List Int) 0
set_option maxHeartbeats 8000000 in
set_option maxRecDepth 100000 in
theorem coamingref06_Pack.calls (k : Nat) (A0 : Option Addr) (c0 : Nat) (l0 : List Int) (A1 : Option Addr) (c1 : Nat) (l1 : List Int) (r : List Int) (w : World) (hr0 : Kd.C (Kd.int .i64) w A0 l0.length l0) (hc0 : l0.length ≤ c0) (hr1 : Kd.C (Kd.int .u64) w A1 l1.length l1) (hc1 : l1.length ≤ c1) (h : coamingref06_Pack.f k l0 l1 = some r) :
  Calls Tryd.prog 35 #[.slice A0 l0.length c0, .slice A1 l1.length c1] w fun e w' => ∃ v0_ : Value, e = .returned (v0_) ∧ Kd.R (Kd.int .u8) 5 w' w.heap.size (fun _ => True) v0_ r ∧ Below w.heap.size w w' := by
 have HR0 := Aside0.mk hr0
 have HC0 := Aside0.mk hc0
 clear hr0 hc0
 have HR1 := Aside0.mk hr1
 have HC1 := Aside0.mk hc1
 clear hr1 hc1
 have HB := Aside0.mk (Below.refl w.heap.size w)
 have H : (coamingref06_Pack.l0 k l0 l1 ([] : List Int) 0) = some r := h
 clear h
 have H' := Aside0.mk H
 clear H
 go_enter Tryd.func35, Tryd.ntmps35
 go_wp2
 go_loopg [5, 6] k (fun kq v5 v6 w' => ∃ (x5_1 : List Int) (x6_1 : Int), v6 = .int .i64 x6_1 ∧ Aside0 (coamingref06_Pack.l0 kq l0 l1 x5_1 x6_1 = some r) ∧ Aside0 (kq ≤ k) ∧ Aside0 (Kd.R (Kd.int .u8) 5 w' w.heap.size (fun _ => True) v5 x5_1) ∧ Aside0 (Below w.heap.size w w'))
 case atStart => exact ⟨(([] : List Int)), (0), (by first | rfl | (simp; done) | (simp [*]; done)), H', ⟨Nat.le_refl _⟩, ⟨by first | exact Kd.R_nil _ _ _ _ _ | exact Kd.N_nil _ _ _ _ _ | exact Kd.V_nil _ _ _ _ _ | exact Kd.Q_nil _ _ _ _ _ | exact Kd.S_nil _ _ _ _ _⟩, ⟨by repeat (first | (with_reducible first | exact HB.out | apply below_alloc | apply pw_below_drewN | apply below_drew1) | exact HB.out)⟩⟩
 case round =>
  clear H'
  try clear c1
  try clear p2
  obtain ⟨x5_1, x6_1, rfl, HA, HK1, HO_5, HB⟩ := hrel
  cases gk with
  | zero => exact absurd HA.out (by simp [coamingref06_Pack.l0])
  | succ k1 =>
   have H := HA.out
   clear HA
   simp only [coamingref06_Pack.l0] at H
   have HC3 := Aside0.mk H
   clear H
   go_upto_region 3 with (fail)
   go_cut [17] (fun v17 wc => ∃ (kq : Nat) (x17_2 : Bool), v17 = .bool x17_2 ∧ Aside0 (coamingref06_Pack.j1 kq l0 l1 x5_1 x6_1 x17_2 = some r) ∧ Aside0 (kq ≤ k1) ∧ Aside0 (Kd.R (Kd.int .u8) 5 wc w.heap.size (fun _ => True) u5 x5_1) ∧ Aside0 (Below w.heap.size w wc))
   case first =>
    have H := HC3.out
    clear HC3
    by_cases c4 : x6_1 < (l0.length : Int)
    ·rw [if_pos c4] at H
     have c4b0 : decide (x6_1 < (l0.length : Int)) = true := decide_eq_true c4
     clear c4
     (first | rw [c4b0] | (simp only [i64_w, i32_w]; rw [c4b0]) | skip)
     have H' := Aside0.mk H
     clear H
     go_wp2
     go_meet
     case rel => exact ⟨_, (decide (x6_1 < (l1.length : Int))), (by first | rfl | (simp; done) | (simp [*]; done)), H', ⟨by have := HK1.out; first | omega | exact Nat.le_refl _⟩, ⟨by (with_reducible repeat (first | apply Kd.R_alloc | apply Kd.R_drewN | apply Kd.R_drew)); exact HO_5.out⟩, ⟨by repeat (first | (with_reducible first | exact HB.out | apply below_alloc | apply pw_below_drewN | apply below_drew1) | exact HB.out)⟩⟩
    ·rw [if_neg c4] at H
     have c4b0 : decide (x6_1 < (l0.length : Int)) = false := decide_eq_false c4
     clear c4
     (first | rw [c4b0] | (simp only [i64_w, i32_w]; rw [c4b0]) | skip)
     have H' := Aside0.mk H
     clear H
     go_wp2
     go_meet
     case rel => exact ⟨_, (false), (by first | rfl | (simp; done) | (simp [*]; done)), H', ⟨by have := HK1.out; first | omega | exact Nat.le_refl _⟩, ⟨by (with_reducible repeat (first | apply Kd.R_alloc | apply Kd.R_drewN | apply Kd.R_drew)); exact HO_5.out⟩, ⟨by repeat (first | (with_reducible first | exact HB.out | apply below_alloc | apply pw_below_drewN | apply below_drew1) | exact HB.out)⟩⟩
   case rest =>
    clear HC3
    try clear c1
    try clear p2
    try clear c3
    try clear c4
    try clear c4b0
    try clear p2
    obtain ⟨kq, x17_2, rfl, HA, HJ2, HO_5, HB⟩ := hcut
    cases kq with
    | zero => exact absurd HA.out (by simp [coamingref06_Pack.j1])
    | succ kj2 =>
     have H := HA.out
     clear HA
     simp only [coamingref06_Pack.j1] at H
     by_cases c5 : x17_2 = true
     ·subst c5
      have H1 : (if 0 ≤ x6_1 then (if x6_1 < (l0.length : Int) then ((coamingref06_Width.f (rd l0 x6_1)).bind fun t363 => (coamingref06_Pack.l1 kj2 l0 l1 x5_1 x6_1 (wrap64 (t363 - 1)))) else (none)) else (none)) = some r := by rw [if_pos rfl] at H; exact H
      clear H
      have H := H1
      clear H1
      by_cases c6 : 0 ≤ x6_1
      ·rw [if_pos c6] at H
       have c6b0 : decide (0 ≤ x6_1) = true := decide_eq_true c6
       clear c6
       by_cases c7 : x6_1 < (l0.length : Int)
       ·rw [if_pos c7] at H
        have c7b0 : decide (x6_1 < (l0.length : Int)) = true := decide_eq_true c7
        clear c7
        replace H := Option.bind_eq_some_iff.mp H
        obtain ⟨t363, A80, H⟩ := H
        replace H : (coamingref06_Pack.l1 kj2 l0 l1 x5_1 x6_1 (wrap64 (t363 - 1))) = some r := H
        have A8 := Aside0.mk A80
        clear A80
        have H' := Aside0.mk H
        clear H
        have p362 : 0 ≤ (x6_1 : Int) := of_decide_eq_true (by first | (with_reducible assumption) | assumption)
        have q362 : x6_1 < (l0.length : Int) := of_decide_eq_true (by first | (with_reducible assumption) | assumption)
        obtain ⟨ad362, e362, hx362_0⟩ := Kd.at_int HR0.out x6_1 p362 q362
        cases e362
        replace hx362_0 := (HB.out.cell (World.block_lt_of_cell? w _ hx362_0)).trans hx362_0
        replace p362 := eq_true p362
        replace q362 := eq_true q362
        go_wp2_with (first | ((with_reducible refine gate_callee (f := 50) rfl ?_); refine goesL_ (some 24) rfl rfl Tryd.func50 (by kernel_rfl) rfl #[.int .i64 (rd l0 x6_1)] rfl (by (try simp only [List.map_toArray, List.map_cons, List.map_nil]); first | done | rfl | (simp only [List.length_drop, List.length_take]; rfl) | (simp only [List.length_drop, List.length_take]; (repeat rw [Nat.min_eq_left (by simp only [eq_iff_iff, iff_true] at *; omega)]); rfl)) ?_; (with_reducible refine (coamingref06_Width.calls (rd l0 x6_1) t363 _ A8.out).mono ?_); rintro e w' ⟨rfl, ⟨nd, rfl⟩⟩; refine ⟨_, rfl, ?_⟩))
        go_loopg [5, 7] kj2 (fun kq v5 v7 w' => ∃ (x5_3 : List Int) (x7_3 : Int), v7 = .int .i64 x7_3 ∧ Aside0 (coamingref06_Pack.l1 kq l0 l1 x5_3 x6_1 x7_3 = some r) ∧ Aside0 (kq ≤ kj2) ∧ Aside0 (Kd.R (Kd.int .u8) 5 w' w.heap.size (fun _ => True) v5 x5_3) ∧ Aside0 (Below w.heap.size w w'))
        case atStart => exact ⟨(x5_1), (wrap64 (t363 - 1)), (by first | rfl | (simp; done) | (simp [*]; done)), H', ⟨Nat.le_refl _⟩, ⟨by (with_reducible repeat (first | apply Kd.R_alloc | apply Kd.R_drewN | apply Kd.R_drew)); exact HO_5.out⟩, ⟨by repeat (first | (with_reducible first | exact HB.out | apply below_alloc | apply pw_below_drewN | apply below_drew1) | exact HB.out)⟩⟩
        case round =>
         clear H'
         try clear c1
         try clear p2
         try clear c3
         try clear p3
         try clear q3
         try clear hx3
         try clear c4
         try clear c4b0
         try clear c5
         try clear c6
         try clear c6b0
         try clear p6
         try clear c7
         try clear c7b0
         try clear hx362_0
         try clear p2
         try clear p362
         try clear q362
         obtain ⟨x5_3, x7_3, rfl, HA, HK3, HO_5, HB⟩ := hrel
         cases gk with
         | zero => exact absurd HA.out (by simp [coamingref06_Pack.l1])
         | succ k3 =>
          have H := HA.out
          clear HA
          simp only [coamingref06_Pack.l1] at H
          by_cases c9 : x7_3 ≥ 0
          ·rw [if_pos c9] at H
           have c9b0 : decide (0 ≤ x7_3) = true := decide_eq_true c9
           clear c9
           by_cases c10 : 0 ≤ x6_1
           ·rw [if_pos c10] at H
            have c10b0 : decide (0 ≤ x6_1) = true := decide_eq_true c10
            clear c10
            by_cases c11 : x6_1 < (l1.length : Int)
            ·rw [if_pos c11] at H
             have c11b0 : decide (x6_1 < (l1.length : Int)) = true := decide_eq_true c11
             clear c11
             obtain ⟨ji12, hji12⟩ : ∃ j_ : Int, (IntKind.u64.wrap (wrap64 (8 * x7_3))) = j_ := ⟨_, rfl⟩
             replace H : (if 0 ≤ (ji12) then (if x5_3.length < 140737488355328 then (coamingref06_Pack.l1 k3 l0 l1 (x5_3 ++ [(shr .u64 (rd l1 x6_1) (ji12)) % 256]) x6_1 (wrap64 (x7_3 - 1))) else (none)) else (none)) = some r := by first | (rw [hji12] at H; exact H) | (simp only [hji12] at H ⊢; exact H)
             by_cases c13 : 0 ≤ (ji12)
             ·rw [if_pos c13] at H
              have c13b0 := eq_true c13
              have c13b1 : decide (0 ≤ (ji12)) = true := decide_eq_true c13
              clear c13
              obtain ⟨ji14, hji14⟩ : ∃ j_ : Int, (shr .u64 (rd l1 x6_1) (ji12)) = j_ := ⟨_, rfl⟩
              replace H : (if x5_3.length < 140737488355328 then (coamingref06_Pack.l1 k3 l0 l1 (x5_3 ++ [(ji14) % 256]) x6_1 (wrap64 (x7_3 - 1))) else (none)) = some r := by first | (rw [hji14] at H; exact H) | (simp only [hji14] at H ⊢; exact H)
              have hji14_ : ((rd l1 x6_1) / 2 ^ min (ji12).toNat 64) = ji14 := hji14
              have hji14z : (ji12) ≤ 64 → ((rd l1 x6_1) / 2 ^ (ji12).toNat) = ji14 := shr_small hji14
              by_cases c15 : x5_3.length < 140737488355328
              ·rw [if_pos c15] at H
               have LMc15 := Aside0.mk c15
               clear c15
               obtain ⟨y365, hy365⟩ : ∃ y_ : List Int, y_ = (x5_3 ++ [(ji14) % 256]) := ⟨_, rfl⟩
               replace H : (coamingref06_Pack.l1 k3 l0 l1 y365 x6_1 (wrap64 (x7_3 - 1))) = some r := by first | (rw [hy365]; with_reducible exact H) | (have H2_ := (Option.bind_some _ _).symm.trans H; rw [hy365]; with_reducible exact H2_) | (have H2_ := (Option.bind_some _ _).symm.trans H; with_reducible exact H2_) | with_reducible exact H | (rw [hy365]; exact H) | exact H
               have Ny365 := Aside0.mk hy365
               clear hy365
               have H' := Aside0.mk H
               clear H
               have p364 : 0 ≤ (x6_1 : Int) := of_decide_eq_true (by first | (with_reducible assumption) | assumption)
               have q364 : x6_1 < (l1.length : Int) := of_decide_eq_true (by first | (with_reducible assumption) | assumption)
               obtain ⟨ad364, e364, hx364_0⟩ := Kd.at_int HR1.out x6_1 p364 q364
               cases e364
               replace hx364_0 := (HB.out.cell (World.block_lt_of_cell? w _ hx364_0)).trans hx364_0
               replace p364 := eq_true p364
               replace q364 := eq_true q364
               go_wp2_with (first | ((with_reducible refine gate_builtin (b := .append) (xs := #[.tmp 30, .tmp 40]) rfl ?_); (try (refine gate_guard (by rfl) ?_; dsimp only)); at_builtin; refine Kd.R_append (Kd.int .u8) (w0 := w) w.heap.size rfl (.tmp 30) (.tmp 40) 23 5 (.int .u8 0) 1 rfl Tryd.underlying23 info5 rfl (by decide) (by omega) u5 x5_3 ((ji14) % 256) [.int .u8 ((ji14) % 256)] (fun _ => True) (fun _ => False) rfl rfl ?aP (fun _ hk => hk.elim) ?aF ?aO ?aB ?aS ?aL ?_; (case aP => exact rfl); (case aB => exact (by repeat (first | (with_reducible first | exact HB.out | apply below_alloc | apply pw_below_drewN | apply below_drew1) | exact HB.out))); (case aF => exact (fun _ _ => trivial)); (case aO => exact (by (with_reducible repeat (first | apply Kd.R_alloc | apply Kd.R_drewN | apply Kd.R_drew)); exact HO_5.out)); (case aS => exact (below_size (by repeat (first | (with_reducible first | exact HB.out | apply below_alloc | apply pw_below_drewN | apply below_drew1) | exact HB.out)))); (case aL => have := LMc15.out; omega); intro v366 w16 ho hb hg hat; rw [← Ny365.out] at ho; have n0_ := Aside0.mk (hb); have n1_ := Aside0.mk (ho); clear HB; clear HO_5; have HB := n0_; have HO367 := n1_; clear n0_ n1_; clear ho hb hg hat))
               go_roundg k3
               case measure => have := HK1.out; have := HJ2.out; have := HK3.out; omega
               case rel => exact ⟨(y365), (wrap64 (x7_3 - 1)), (by first | rfl | (simp; done) | (simp [*]; done)), H', ⟨by have := HK1.out; have := HJ2.out; have := HK3.out; omega⟩, ⟨by (with_reducible repeat (first | apply Kd.R_alloc | apply Kd.R_drewN | apply Kd.R_drew)); exact HO367.out⟩, ⟨by repeat (first | (with_reducible first | exact HB.out | apply below_alloc | apply pw_below_drewN | apply below_drew1) | exact HB.out)⟩⟩
              ·rw [if_neg c15] at H
               exact absurd H (by simp)
             ·rw [if_neg c13] at H
              exact absurd H (by simp)
            ·rw [if_neg c11] at H
             exact absurd H (by simp)
           ·rw [if_neg c10] at H
            exact absurd H (by simp)
          ·rw [if_neg c9] at H
           have c9b0 : decide (0 ≤ x7_3) = false := decide_eq_false c9
           clear c9
           have H' := Aside0.mk H
           clear H
           go_wp2
           go_roundg k3
           case measure => have := HK1.out; have := HJ2.out; have := HK3.out; omega
           case rel => exact ⟨(x5_3), (wrap64 (x6_1 + 1)), (by first | rfl | (simp; done) | (simp [*]; done)), H', ⟨by have := HK1.out; have := HJ2.out; have := HK3.out; omega⟩, ⟨by (with_reducible repeat (first | apply Kd.R_alloc | apply Kd.R_drewN | apply Kd.R_drew)); exact HO_5.out⟩, ⟨by repeat (first | (with_reducible first | exact HB.out | apply below_alloc | apply pw_below_drewN | apply below_drew1) | exact HB.out)⟩⟩
       ·rw [if_neg c7] at H
        exact absurd H (by simp)
      ·rw [if_neg c6] at H
       exact absurd H (by simp)
     ·replace c5 := Bool.eq_false_iff.mpr c5
      subst c5
      have H1 : (some x5_1) = some r := by rw [if_neg (show ¬ (false = true) by decide)] at H; exact H
      clear H
      have H := H1
      clear H1
      obtain rfl := Option.some.inj H
      go_wp2
      go_ret
      exact ⟨_, by first | rfl | (simp [errW_none, errW_some] <;> rfl) | (simp [*, errW_none, errW_some] <;> rfl), by (with_reducible repeat (first | apply Kd.R_alloc | apply Kd.R_drewN | apply Kd.R_drew)); exact HO_5.out, by repeat (first | (with_reducible first | exact HB.out | apply below_alloc | apply pw_below_drewN | apply below_drew1) | exact HB.out)⟩
def coamingref08_Write.f (k : Nat) (a0_0 : Int) (a0_1 : Int) (a0_2 : Int) (a0_3 : Int) (a0_4 : Int) (l0_5 : List Int) : Option (List Int) := if a0_1 = 1 then ((coamingref06_Pack.f k (([4, 2, 2, 8, 8, 4] : List Int)) (([627086611, IntKind.u64.wrap (a0_0), IntKind.u64.wrap (a0_1), a0_2, a0_3, IntKind.u64.wrap ((l0_5.length : Int))] : List Int))).bind fun t375 => (if t375.length + l0_5.length < 140737488355328 then (some (t375 ++ l0_5)) else (none))) else ((coamingref06_Pack.f k (([4, 2, 2, 8, 8, 4] : List Int)) (([627086611, IntKind.u64.wrap (a0_0), IntKind.u64.wrap (a0_1), a0_2, a0_3, IntKind.u64.wrap (a0_4)] : List Int))).bind fun t387 => (some t387))
set_option maxHeartbeats 8000000 in
set_option maxRecDepth 100000 in
theorem coamingref08_Write.calls (k : Nat) (a0_0 : Int) (a0_1 : Int) (a0_2 : Int) (a0_3 : Int) (a0_4 : Int) (A0_5 : Option Addr) (c0_5 : Nat) (l0_5 : List Int) (r : List Int) (w : World) (hr0_5 : Kd.C (Kd.int .u8) w A0_5 l0_5.length l0_5) (hc0_5 : l0_5.length ≤ c0_5) (h : coamingref08_Write.f k a0_0 a0_1 a0_2 a0_3 a0_4 l0_5 = some r) :
  Calls Tryd.prog 21 #[.agg #[.int .u16 a0_0, .int .u16 a0_1, .int .u64 a0_2, .int .u64 a0_3, .int .u32 a0_4, .slice A0_5 l0_5.length c0_5]] w fun e w' => ∃ v0_ : Value, e = .returned (v0_) ∧ Kd.R (Kd.int .u8) 5 w' w.heap.size (fun _ => True) v0_ r ∧ Below w.heap.size w w' := by
 have hu61 := Tryd.underlying61
 have HR0_5 := Aside0.mk hr0_5
 have HC0_5 := Aside0.mk hc0_5
 clear hr0_5 hc0_5
 have HB := Aside0.mk (Below.refl w.heap.size w)
 have H : (if a0_1 = 1 then ((coamingref06_Pack.f k (([4, 2, 2, 8, 8, 4] : List Int)) (([627086611, IntKind.u64.wrap (a0_0), IntKind.u64.wrap (a0_1), a0_2, a0_3, IntKind.u64.wrap ((l0_5.length : Int))] : List Int))).bind fun t375 => (if t375.length + l0_5.length < 140737488355328 then (some (t375 ++ l0_5)) else (none))) else ((coamingref06_Pack.f k (([4, 2, 2, 8, 8, 4] : List Int)) (([627086611, IntKind.u64.wrap (a0_0), IntKind.u64.wrap (a0_1), a0_2, a0_3, IntKind.u64.wrap (a0_4)] : List Int))).bind fun t387 => (some t387))) = some r := h
 clear h
 by_cases c2 : a0_1 = 1
 ·rw [if_pos c2] at H
  have c2b0 : (a0_1 == 1) = true := beq_iff_eq.mpr c2
  have c2b1 : (a0_1 != 1) = false := bne_eq_false_iff_eq.mpr c2
  clear c2
  obtain ⟨y369, hy369⟩ : ∃ y_ : List Int, y_ = (([4, 2, 2, 8, 8, 4] : List Int)) := ⟨_, rfl⟩
  replace H : ((coamingref06_Pack.f k y369 (([627086611, IntKind.u64.wrap (a0_0), IntKind.u64.wrap (a0_1), a0_2, a0_3, IntKind.u64.wrap ((l0_5.length : Int))] : List Int))).bind fun t375 => (if t375.length + l0_5.length < 140737488355328 then (some (t375 ++ l0_5)) else (none))) = some r := by first | (rw [hy369]; with_reducible exact H) | (have H2_ := (Option.bind_some _ _).symm.trans H; rw [hy369]; with_reducible exact H2_) | (have H2_ := (Option.bind_some _ _).symm.trans H; with_reducible exact H2_) | with_reducible exact H | (rw [hy369]; exact H) | exact H
  have Ny369 := Aside0.mk hy369
  clear hy369
  obtain ⟨y372, hy372⟩ : ∃ y_ : List Int, y_ = (([627086611, IntKind.u64.wrap (a0_0), IntKind.u64.wrap (a0_1), a0_2, a0_3, IntKind.u64.wrap ((l0_5.length : Int))] : List Int)) := ⟨_, rfl⟩
  replace H : ((coamingref06_Pack.f k y369 y372).bind fun t375 => (if t375.length + l0_5.length < 140737488355328 then (some (t375 ++ l0_5)) else (none))) = some r := by first | (rw [hy372]; with_reducible exact H) | (have H2_ := (Option.bind_some _ _).symm.trans H; rw [hy372]; with_reducible exact H2_) | (have H2_ := (Option.bind_some _ _).symm.trans H; with_reducible exact H2_) | with_reducible exact H | (rw [hy372]; exact H) | exact H
  have Ny372 := Aside0.mk hy372
  clear hy372
  replace H := Option.bind_eq_some_iff.mp H
  obtain ⟨t375, A30, H⟩ := H
  replace H : (if t375.length + l0_5.length < 140737488355328 then (some (t375 ++ l0_5)) else (none)) = some r := H
  have A3 := Aside0.mk A30
  clear A30
  by_cases c4 : t375.length + l0_5.length < 140737488355328
  ·rw [if_pos c4] at H
   have LMc4 := Aside0.mk c4
   clear c4
   obtain ⟨y378, hy378⟩ : ∃ y_ : List Int, y_ = (t375 ++ l0_5) := ⟨_, rfl⟩
   replace H : (some y378) = some r := by first | (rw [hy378]; with_reducible exact H) | (have H2_ := (Option.bind_some _ _).symm.trans H; rw [hy378]; with_reducible exact H2_) | (have H2_ := (Option.bind_some _ _).symm.trans H; with_reducible exact H2_) | with_reducible exact H | (rw [hy378]; exact H) | exact H
   have Ny378 := Aside0.mk hy378
   clear hy378
   obtain rfl := Option.some.inj H
   go_enter Tryd.func21, Tryd.ntmps21
   go_wp2_with (first | ((with_reducible refine gate_dst (N := 1) rfl ?_); refine box_event ?hg (N := 1) ?hd (cs := #[.int .u16 a0_0, .int .u16 a0_1, .int .u64 a0_2, .int .u64 a0_3, .int .u32 a0_4, .slice A0_5 l0_5.length c0_5]) (t := 61) ?hr ?_; (case hd => rfl); (case hg => rfl); (case hr => first | (go_simp; done) | (go_simp; rfl) | (go_simp; simp only [IntKind.wrap_u32, Int.emod_add_emod, Int.add_emod_emod])); intro gb368 hg w5 hbox hb; have n0_ := Aside0.mk (below_step (by repeat (first | (with_reducible first | exact HB.out | apply below_alloc | apply pw_below_drewN | apply below_drew1) | exact HB.out)) hb); have n1_ := Aside0.mk (hbox); have n2_ := Aside0.mk ((by rw [hg]; exact (below_size (by repeat (first | (with_reducible first | exact HB.out | apply below_alloc | apply pw_below_drewN | apply below_drew1) | exact HB.out))) : w.heap.size ≤ gb368)); have n3_ := Aside0.mk ((by rw [hg]; exact (below_size (by repeat (first | (with_reducible first | exact HB.out | apply below_alloc | apply pw_below_drewN | apply below_drew1) | exact HB.out))) : w.heap.size ≤ gb368)); clear HB; have HB := n0_; have BK368 := n1_; have GW368 := n2_; have GE368 := n3_; clear n0_ n1_ n2_ n3_; clear hb hbox hg; have hcz6_0 : w5.cell? ⟨gb368, 0, none⟩ = some (.int .u16 a0_0) := (blk_cell BK368.out 0).trans rfl; have hcz6_1 : w5.cell? ⟨gb368, 1, none⟩ = some (.int .u16 a0_1) := (blk_cell BK368.out 1).trans rfl; have hcz6_2 : w5.cell? ⟨gb368, 2, none⟩ = some (.int .u64 a0_2) := (blk_cell BK368.out 2).trans rfl; have hcz6_3 : w5.cell? ⟨gb368, 3, none⟩ = some (.int .u64 a0_3) := (blk_cell BK368.out 3).trans rfl; have hcz6_4 : w5.cell? ⟨gb368, 4, none⟩ = some (.int .u32 a0_4) := (blk_cell BK368.out 4).trans rfl; have hcz6_5 : w5.cell? ⟨gb368, 5, none⟩ = some (.slice A0_5 l0_5.length c0_5) := (blk_cell BK368.out 5).trans rfl; have hfz6_0 := blk_frozen BK368.out 0; have hfz6_1 := blk_frozen BK368.out 1; have hfz6_2 := blk_frozen BK368.out 2; have hfz6_3 := blk_frozen BK368.out 3; have hfz6_4 := blk_frozen BK368.out 4; have hfz6_5 := blk_frozen BK368.out 5) | ((with_reducible refine gate_dst (N := 15) rfl ?_); refine Kd.R_lit (Kd.int .i64) _ 3 ?hg (N := 15) ?hd (xs := ([4, 2, 2, 8, 8, 4] : List Int)) (inner := [.int .i64 4, .int .i64 2, .int .i64 2, .int .i64 8, .int .i64 8, .int .i64 4]) (ok := fun _ => True) (okp := fun _ => True) ?hr ?hp (fun _ hk => hk) trivial (Below.refl _ _) (Nat.le_refl _) (by simp) ?_; (case hd => rfl); (case hg => rfl); (case hr => first | (go_simp; done) | (go_simp; rfl) | (go_simp; simp only [IntKind.wrap_u32, Int.emod_add_emod, Int.add_emod_emod])); (case hp => exact (Reps.one (show Kd.M (Kd.int .i64) _ _ _ 4 [.int .i64 4] from rfl) (Reps.one (show Kd.M (Kd.int .i64) _ _ _ 2 [.int .i64 2] from rfl) (Reps.one (show Kd.M (Kd.int .i64) _ _ _ 2 [.int .i64 2] from rfl) (Reps.one (show Kd.M (Kd.int .i64) _ _ _ 8 [.int .i64 8] from rfl) (Reps.one (show Kd.M (Kd.int .i64) _ _ _ 8 [.int .i64 8] from rfl) (Reps.one (show Kd.M (Kd.int .i64) _ _ _ 4 [.int .i64 4] from rfl) (Reps.none _ _)))))))); intro v370 w7 ho8 hb hg_ hnew_; clear hg_ hnew_; (first | rw [← Ny369.out] at ho8 | (simp only [Int.reduceToNat] at ho8; rw [← Ny369.out] at ho8)); have n0_ := Aside0.mk (Kd.R_lower ho8 (below_size (by repeat (first | (with_reducible first | exact HB.out | apply below_alloc | apply pw_below_drewN | apply below_drew1 | refine below_set ?_ GE368.out) | exact HB.out)))); have n1_ := Aside0.mk (blk_below (g := gb368) (o := .cells #[.int .u16 a0_0, .int .u16 a0_1, .int .u64 a0_2, .int .u64 a0_3, .int .u32 a0_4, .slice A0_5 l0_5.length c0_5] 61 (0, 0)) (by (with_reducible repeat (first | refine blk_drewN ?_ _ | refine blk_drew ?_ | refine blk_alloc ?_ _)); exact BK368.out) hb); have n2_ := Aside0.mk (below_step (by repeat (first | (with_reducible first | exact HB.out | apply below_alloc | apply pw_below_drewN | apply below_drew1 | refine below_set ?_ GE368.out) | exact HB.out)) hb); clear BK368; clear HB; have HO371 := n0_; have BK368 := n1_; have HB := n2_; clear n0_ n1_ n2_; clear hb ho8; have hcz9_0 : w7.cell? ⟨gb368, 0, none⟩ = some (.int .u16 a0_0) := (blk_cell BK368.out 0).trans rfl; have hcz9_1 : w7.cell? ⟨gb368, 1, none⟩ = some (.int .u16 a0_1) := (blk_cell BK368.out 1).trans rfl; have hcz9_2 : w7.cell? ⟨gb368, 2, none⟩ = some (.int .u64 a0_2) := (blk_cell BK368.out 2).trans rfl; have hcz9_3 : w7.cell? ⟨gb368, 3, none⟩ = some (.int .u64 a0_3) := (blk_cell BK368.out 3).trans rfl; have hcz9_4 : w7.cell? ⟨gb368, 4, none⟩ = some (.int .u32 a0_4) := (blk_cell BK368.out 4).trans rfl; have hcz9_5 : w7.cell? ⟨gb368, 5, none⟩ = some (.slice A0_5 l0_5.length c0_5) := (blk_cell BK368.out 5).trans rfl; have hfz9_0 := blk_frozen BK368.out 0; have hfz9_1 := blk_frozen BK368.out 1; have hfz9_2 := blk_frozen BK368.out 2; have hfz9_3 := blk_frozen BK368.out 3; have hfz9_4 := blk_frozen BK368.out 4; have hfz9_5 := blk_frozen BK368.out 5) | ((with_reducible refine gate_dst (N := 27) rfl ?_); refine Kd.R_lit (Kd.int .u64) _ 42 ?hg (N := 27) ?hd (xs := ([627086611, IntKind.u64.wrap (a0_0), IntKind.u64.wrap (a0_1), a0_2, a0_3, IntKind.u64.wrap ((l0_5.length : Int))] : List Int)) (inner := [.int .u64 627086611, .int .u64 (IntKind.u64.wrap (a0_0)), .int .u64 (IntKind.u64.wrap (a0_1)), .int .u64 a0_2, .int .u64 a0_3, .int .u64 (IntKind.u64.wrap ((l0_5.length : Int)))]) (ok := fun _ => True) (okp := fun _ => True) ?hr ?hp (fun _ hk => hk) trivial (Below.refl _ _) (Nat.le_refl _) (by simp) ?_; (case hd => rfl); (case hg => rfl); (case hr => first | (go_simp; done) | (go_simp; rfl) | (go_simp; simp only [IntKind.wrap_u32, Int.emod_add_emod, Int.add_emod_emod])); (case hp => exact (Reps.one (show Kd.M (Kd.int .u64) _ _ _ 627086611 [.int .u64 627086611] from rfl) (Reps.one (show Kd.M (Kd.int .u64) _ _ _ (IntKind.u64.wrap (a0_0)) [.int .u64 (IntKind.u64.wrap (a0_0))] from rfl) (Reps.one (show Kd.M (Kd.int .u64) _ _ _ (IntKind.u64.wrap (a0_1)) [.int .u64 (IntKind.u64.wrap (a0_1))] from rfl) (Reps.one (show Kd.M (Kd.int .u64) _ _ _ a0_2 [.int .u64 a0_2] from rfl) (Reps.one (show Kd.M (Kd.int .u64) _ _ _ a0_3 [.int .u64 a0_3] from rfl) (Reps.one (show Kd.M (Kd.int .u64) _ _ _ (IntKind.u64.wrap ((l0_5.length : Int))) [.int .u64 (IntKind.u64.wrap ((l0_5.length : Int)))] from rfl) (Reps.none _ _)))))))); intro v373 w10 ho11 hb hg_ hnew_; clear hg_ hnew_; (first | rw [← Ny372.out] at ho11 | (simp only [Int.reduceToNat] at ho11; rw [← Ny372.out] at ho11)); have n0_ := Aside0.mk (Kd.R_below (by (with_reducible repeat (first | apply Kd.R_alloc | apply Kd.R_drewN | apply Kd.R_drew)); exact HO371.out) hb); have n1_ := Aside0.mk (Kd.R_lower ho11 (below_size (by repeat (first | (with_reducible first | exact HB.out | apply below_alloc | apply pw_below_drewN | apply below_drew1 | refine below_set ?_ GE368.out) | exact HB.out)))); have n2_ := Aside0.mk (blk_below (g := gb368) (o := .cells #[.int .u16 a0_0, .int .u16 a0_1, .int .u64 a0_2, .int .u64 a0_3, .int .u32 a0_4, .slice A0_5 l0_5.length c0_5] 61 (0, 0)) (by (with_reducible repeat (first | refine blk_drewN ?_ _ | refine blk_drew ?_ | refine blk_alloc ?_ _)); exact BK368.out) hb); have n3_ := Aside0.mk (below_step (by repeat (first | (with_reducible first | exact HB.out | apply below_alloc | apply pw_below_drewN | apply below_drew1 | refine below_set ?_ GE368.out) | exact HB.out)) hb); clear HO371; clear BK368; clear HB; have HO371 := n0_; have HO374 := n1_; have BK368 := n2_; have HB := n3_; clear n0_ n1_ n2_ n3_; clear hb ho11; obtain ⟨Ao12, co12, eo12⟩ := Kd.R_slice HO371.out; subst eo12; obtain ⟨Ao13, co13, eo13⟩ := Kd.R_slice HO374.out; subst eo13) | ((with_reducible refine gate_callee (f := 35) rfl ?_); refine goesL_ (some 28) rfl rfl Tryd.func35 (by kernel_rfl) rfl #[.slice Ao12 y369.length co12, .slice Ao13 y372.length co13] rfl (by (try simp only [List.map_toArray, List.map_cons, List.map_nil]); first | done | rfl | (simp only [List.length_drop, List.length_take]; rfl) | (simp only [List.length_drop, List.length_take]; (repeat rw [Nat.min_eq_left (by simp only [eq_iff_iff, iff_true] at *; omega)]); rfl)) ?_; (with_reducible refine (coamingref06_Pack.calls k _ _ y369 _ _ y372 t375 _ ?side1 ?side2 ?side3 ?side4 A3.out).mono ?_); (case side1 => repeat (first | exact (Kd.R_reads' HO371.out).2.2 | (with_reducible refine Kd.C_alloc ?_ _) | (with_reducible refine Kd.C_drewN ?_ _) | (with_reducible refine Kd.C_drew ?_))); (case side2 => exact (Kd.R_reads' HO371.out).2.1); (case side3 => repeat (first | exact (Kd.R_reads' HO374.out).2.2 | (with_reducible refine Kd.C_alloc ?_ _) | (with_reducible refine Kd.C_drewN ?_ _) | (with_reducible refine Kd.C_drew ?_))); (case side4 => exact (Kd.R_reads' HO374.out).2.1); rintro e w14 ⟨v376, rfl, ho0, hb⟩; refine ⟨_, rfl, ?_⟩; have n0_ := Aside0.mk (Kd.R_below (by (with_reducible repeat (first | apply Kd.R_alloc | apply Kd.R_drewN | apply Kd.R_drew)); exact HO371.out) hb); have n1_ := Aside0.mk (Kd.R_below (by (with_reducible repeat (first | apply Kd.R_alloc | apply Kd.R_drewN | apply Kd.R_drew)); exact HO374.out) hb); have n2_ := Aside0.mk (Kd.R_lower ho0 (below_size (by repeat (first | (with_reducible first | exact HB.out | apply below_alloc | apply pw_below_drewN | apply below_drew1 | refine below_set ?_ GE368.out) | exact HB.out)))); have n3_ := Aside0.mk (blk_below (g := gb368) (o := .cells #[.int .u16 a0_0, .int .u16 a0_1, .int .u64 a0_2, .int .u64 a0_3, .int .u32 a0_4, .slice A0_5 l0_5.length c0_5] 61 (0, 0)) (by (with_reducible repeat (first | refine blk_drewN ?_ _ | refine blk_drew ?_ | refine blk_alloc ?_ _)); exact BK368.out) hb); have n4_ := Aside0.mk (below_step (by repeat (first | (with_reducible first | exact HB.out | apply below_alloc | apply pw_below_drewN | apply below_drew1 | refine below_set ?_ GE368.out) | exact HB.out)) hb); clear HO371; clear HO374; clear BK368; clear HB; have HO371 := n0_; have HO374 := n1_; have HO377 := n2_; have BK368 := n3_; have HB := n4_; clear n0_ n1_ n2_ n3_ n4_; (try clear hb); (try clear hb2); (try clear hk); (try clear hi); (try clear ho0); have hcz15_0 : w14.cell? ⟨gb368, 0, none⟩ = some (.int .u16 a0_0) := (blk_cell BK368.out 0).trans rfl; have hcz15_1 : w14.cell? ⟨gb368, 1, none⟩ = some (.int .u16 a0_1) := (blk_cell BK368.out 1).trans rfl; have hcz15_2 : w14.cell? ⟨gb368, 2, none⟩ = some (.int .u64 a0_2) := (blk_cell BK368.out 2).trans rfl; have hcz15_3 : w14.cell? ⟨gb368, 3, none⟩ = some (.int .u64 a0_3) := (blk_cell BK368.out 3).trans rfl; have hcz15_4 : w14.cell? ⟨gb368, 4, none⟩ = some (.int .u32 a0_4) := (blk_cell BK368.out 4).trans rfl; have hcz15_5 : w14.cell? ⟨gb368, 5, none⟩ = some (.slice A0_5 l0_5.length c0_5) := (blk_cell BK368.out 5).trans rfl; have hfz15_0 := blk_frozen BK368.out 0; have hfz15_1 := blk_frozen BK368.out 1; have hfz15_2 := blk_frozen BK368.out 2; have hfz15_3 := blk_frozen BK368.out 3; have hfz15_4 := blk_frozen BK368.out 4; have hfz15_5 := blk_frozen BK368.out 5) | ((with_reducible refine gate_builtin (b := .append) (xs := #[.tmp 32, .tmp 34]) rfl ?_); at_builtin; refine Kd.R_append_rows (Kd.int .u8) (w0 := w) w.heap.size rfl (.tmp 32) (.tmp 34) 23 5 (.int .u8 0) 1 rfl Tryd.underlying23 info5 rfl (by decide) (by omega) v376 t375 l0_5 _ _ _ (fun _ => True) (fun _ => False) rfl rfl ?aO ?aR (fun _ _ h => h) (fun _ h => h.elim) ?aF ?aB ?aS ?aL ?_; (case aR => repeat (first | exact (Kd.C_below HR0_5.out HB.out) | (with_reducible refine Kd.C_alloc ?_ _) | (with_reducible refine Kd.C_drewN ?_ _) | (with_reducible refine Kd.C_drew ?_))); (case aB => exact (by repeat (first | (with_reducible first | exact HB.out | apply below_alloc | apply pw_below_drewN | apply below_drew1 | refine below_set ?_ GE368.out) | exact HB.out))); (case aF => exact (fun _ _ => trivial)); (case aO => exact (by (with_reducible repeat (first | apply Kd.R_alloc | apply Kd.R_drewN | apply Kd.R_drew)); exact HO377.out)); (case aS => exact (below_size (by repeat (first | (with_reducible first | exact HB.out | apply below_alloc | apply pw_below_drewN | apply below_drew1 | refine below_set ?_ GE368.out) | exact HB.out)))); (case aL => have := LMc4.out; omega); intro v379 w16 ho hb hg hat; rw [← Ny378.out] at ho; have n0_ := Aside0.mk (blk_grown (g := gb368) (o := .cells #[.int .u16 a0_0, .int .u16 a0_1, .int .u64 a0_2, .int .u64 a0_3, .int .u32 a0_4, .slice A0_5 l0_5.length c0_5] 61 (0, 0)) (by (with_reducible repeat (first | refine blk_drewN ?_ _ | refine blk_drew ?_ | refine blk_alloc ?_ _)); exact BK368.out) hg (Kd.R_ne HO377.out BK368.out (by decide))); have n1_ := Aside0.mk (Kd.R_over' (by (with_reducible repeat (first | apply Kd.R_alloc | apply Kd.R_drewN | apply Kd.R_drew)); exact HO371.out) (Kd.R_typed (by (with_reducible repeat (first | apply Kd.R_alloc | apply Kd.R_drewN | apply Kd.R_drew)); exact HO377.out)) (by decide) hg); have n2_ := Aside0.mk (Kd.R_over' (by (with_reducible repeat (first | apply Kd.R_alloc | apply Kd.R_drewN | apply Kd.R_drew)); exact HO374.out) (Kd.R_typed (by (with_reducible repeat (first | apply Kd.R_alloc | apply Kd.R_drewN | apply Kd.R_drew)); exact HO377.out)) (by decide) hg); have n3_ := Aside0.mk (hb); have n4_ := Aside0.mk (ho); clear BK368; clear HO371; clear HO374; clear HB; clear HO377; have BK368 := n0_; have HO371 := n1_; have HO374 := n2_; have HB := n3_; have HO380 := n4_; clear n0_ n1_ n2_ n3_ n4_; clear ho hb hg hat))
   go_ret
   exact ⟨_, by first | rfl | (simp [errW_none, errW_some] <;> rfl) | (simp [*, errW_none, errW_some] <;> rfl), by (with_reducible repeat (first | apply Kd.R_alloc | apply Kd.R_drewN | apply Kd.R_drew)); exact HO380.out, by repeat (first | (with_reducible first | exact HB.out | apply below_alloc | apply pw_below_drewN | apply below_drew1 | refine below_set ?_ GE368.out) | exact HB.out)⟩
  ·rw [if_neg c4] at H
   exact absurd H (by simp)
 ·rw [if_neg c2] at H
  have c2b0 : (a0_1 == 1) = false := beq_eq_false_iff_ne.mpr c2
  have c2b1 : (a0_1 != 1) = true := bne_iff_ne.mpr c2
  obtain ⟨y381, hy381⟩ : ∃ y_ : List Int, y_ = (([4, 2, 2, 8, 8, 4] : List Int)) := ⟨_, rfl⟩
  replace H : ((coamingref06_Pack.f k y381 (([627086611, IntKind.u64.wrap (a0_0), IntKind.u64.wrap (a0_1), a0_2, a0_3, IntKind.u64.wrap (a0_4)] : List Int))).bind fun t387 => (some t387)) = some r := by first | (rw [hy381]; with_reducible exact H) | (have H2_ := (Option.bind_some _ _).symm.trans H; rw [hy381]; with_reducible exact H2_) | (have H2_ := (Option.bind_some _ _).symm.trans H; with_reducible exact H2_) | with_reducible exact H | (rw [hy381]; exact H) | exact H
  have Ny381 := Aside0.mk hy381
  clear hy381
  obtain ⟨y384, hy384⟩ : ∃ y_ : List Int, y_ = (([627086611, IntKind.u64.wrap (a0_0), IntKind.u64.wrap (a0_1), a0_2, a0_3, IntKind.u64.wrap (a0_4)] : List Int)) := ⟨_, rfl⟩
  replace H : ((coamingref06_Pack.f k y381 y384).bind fun t387 => (some t387)) = some r := by first | (rw [hy384]; with_reducible exact H) | (have H2_ := (Option.bind_some _ _).symm.trans H; rw [hy384]; with_reducible exact H2_) | (have H2_ := (Option.bind_some _ _).symm.trans H; with_reducible exact H2_) | with_reducible exact H | (rw [hy384]; exact H) | exact H
  have Ny384 := Aside0.mk hy384
  clear hy384
  replace H := Option.bind_eq_some_iff.mp H
  obtain ⟨t387, A170, H⟩ := H
  replace H : (some t387) = some r := H
  have A17 := Aside0.mk A170
  clear A170
  obtain rfl := Option.some.inj H
  go_enter Tryd.func21, Tryd.ntmps21
  go_wp2_with (first | ((with_reducible refine gate_dst (N := 1) rfl ?_); refine box_event ?hg (N := 1) ?hd (cs := #[.int .u16 a0_0, .int .u16 a0_1, .int .u64 a0_2, .int .u64 a0_3, .int .u32 a0_4, .slice A0_5 l0_5.length c0_5]) (t := 61) ?hr ?_; (case hd => rfl); (case hg => rfl); (case hr => first | (go_simp; done) | (go_simp; rfl) | (go_simp; simp only [IntKind.wrap_u32, Int.emod_add_emod, Int.add_emod_emod])); intro gb368 hg w18 hbox hb; have n0_ := Aside0.mk (below_step (by repeat (first | (with_reducible first | exact HB.out | apply below_alloc | apply pw_below_drewN | apply below_drew1) | exact HB.out)) hb); have n1_ := Aside0.mk (hbox); have n2_ := Aside0.mk ((by rw [hg]; exact (below_size (by repeat (first | (with_reducible first | exact HB.out | apply below_alloc | apply pw_below_drewN | apply below_drew1) | exact HB.out))) : w.heap.size ≤ gb368)); have n3_ := Aside0.mk ((by rw [hg]; exact (below_size (by repeat (first | (with_reducible first | exact HB.out | apply below_alloc | apply pw_below_drewN | apply below_drew1) | exact HB.out))) : w.heap.size ≤ gb368)); clear HB; have HB := n0_; have BK368 := n1_; have GW368 := n2_; have GE368 := n3_; clear n0_ n1_ n2_ n3_; clear hb hbox hg; have hcz19_0 : w18.cell? ⟨gb368, 0, none⟩ = some (.int .u16 a0_0) := (blk_cell BK368.out 0).trans rfl; have hcz19_1 : w18.cell? ⟨gb368, 1, none⟩ = some (.int .u16 a0_1) := (blk_cell BK368.out 1).trans rfl; have hcz19_2 : w18.cell? ⟨gb368, 2, none⟩ = some (.int .u64 a0_2) := (blk_cell BK368.out 2).trans rfl; have hcz19_3 : w18.cell? ⟨gb368, 3, none⟩ = some (.int .u64 a0_3) := (blk_cell BK368.out 3).trans rfl; have hcz19_4 : w18.cell? ⟨gb368, 4, none⟩ = some (.int .u32 a0_4) := (blk_cell BK368.out 4).trans rfl; have hcz19_5 : w18.cell? ⟨gb368, 5, none⟩ = some (.slice A0_5 l0_5.length c0_5) := (blk_cell BK368.out 5).trans rfl; have hfz19_0 := blk_frozen BK368.out 0; have hfz19_1 := blk_frozen BK368.out 1; have hfz19_2 := blk_frozen BK368.out 2; have hfz19_3 := blk_frozen BK368.out 3; have hfz19_4 := blk_frozen BK368.out 4; have hfz19_5 := blk_frozen BK368.out 5) | ((with_reducible refine gate_dst (N := 15) rfl ?_); refine Kd.R_lit (Kd.int .i64) _ 3 ?hg (N := 15) ?hd (xs := ([4, 2, 2, 8, 8, 4] : List Int)) (inner := [.int .i64 4, .int .i64 2, .int .i64 2, .int .i64 8, .int .i64 8, .int .i64 4]) (ok := fun _ => True) (okp := fun _ => True) ?hr ?hp (fun _ hk => hk) trivial (Below.refl _ _) (Nat.le_refl _) (by simp) ?_; (case hd => rfl); (case hg => rfl); (case hr => first | (go_simp; done) | (go_simp; rfl) | (go_simp; simp only [IntKind.wrap_u32, Int.emod_add_emod, Int.add_emod_emod])); (case hp => exact (Reps.one (show Kd.M (Kd.int .i64) _ _ _ 4 [.int .i64 4] from rfl) (Reps.one (show Kd.M (Kd.int .i64) _ _ _ 2 [.int .i64 2] from rfl) (Reps.one (show Kd.M (Kd.int .i64) _ _ _ 2 [.int .i64 2] from rfl) (Reps.one (show Kd.M (Kd.int .i64) _ _ _ 8 [.int .i64 8] from rfl) (Reps.one (show Kd.M (Kd.int .i64) _ _ _ 8 [.int .i64 8] from rfl) (Reps.one (show Kd.M (Kd.int .i64) _ _ _ 4 [.int .i64 4] from rfl) (Reps.none _ _)))))))); intro v382 w20 ho21 hb hg_ hnew_; clear hg_ hnew_; (first | rw [← Ny381.out] at ho21 | (simp only [Int.reduceToNat] at ho21; rw [← Ny381.out] at ho21)); have n0_ := Aside0.mk (Kd.R_lower ho21 (below_size (by repeat (first | (with_reducible first | exact HB.out | apply below_alloc | apply pw_below_drewN | apply below_drew1 | refine below_set ?_ GE368.out) | exact HB.out)))); have n1_ := Aside0.mk (blk_below (g := gb368) (o := .cells #[.int .u16 a0_0, .int .u16 a0_1, .int .u64 a0_2, .int .u64 a0_3, .int .u32 a0_4, .slice A0_5 l0_5.length c0_5] 61 (0, 0)) (by (with_reducible repeat (first | refine blk_drewN ?_ _ | refine blk_drew ?_ | refine blk_alloc ?_ _)); exact BK368.out) hb); have n2_ := Aside0.mk (below_step (by repeat (first | (with_reducible first | exact HB.out | apply below_alloc | apply pw_below_drewN | apply below_drew1 | refine below_set ?_ GE368.out) | exact HB.out)) hb); clear BK368; clear HB; have HO383 := n0_; have BK368 := n1_; have HB := n2_; clear n0_ n1_ n2_; clear hb ho21; have hcz22_0 : w20.cell? ⟨gb368, 0, none⟩ = some (.int .u16 a0_0) := (blk_cell BK368.out 0).trans rfl; have hcz22_1 : w20.cell? ⟨gb368, 1, none⟩ = some (.int .u16 a0_1) := (blk_cell BK368.out 1).trans rfl; have hcz22_2 : w20.cell? ⟨gb368, 2, none⟩ = some (.int .u64 a0_2) := (blk_cell BK368.out 2).trans rfl; have hcz22_3 : w20.cell? ⟨gb368, 3, none⟩ = some (.int .u64 a0_3) := (blk_cell BK368.out 3).trans rfl; have hcz22_4 : w20.cell? ⟨gb368, 4, none⟩ = some (.int .u32 a0_4) := (blk_cell BK368.out 4).trans rfl; have hcz22_5 : w20.cell? ⟨gb368, 5, none⟩ = some (.slice A0_5 l0_5.length c0_5) := (blk_cell BK368.out 5).trans rfl; have hfz22_0 := blk_frozen BK368.out 0; have hfz22_1 := blk_frozen BK368.out 1; have hfz22_2 := blk_frozen BK368.out 2; have hfz22_3 := blk_frozen BK368.out 3; have hfz22_4 := blk_frozen BK368.out 4; have hfz22_5 := blk_frozen BK368.out 5) | ((with_reducible refine gate_dst (N := 27) rfl ?_); refine Kd.R_lit (Kd.int .u64) _ 42 ?hg (N := 27) ?hd (xs := ([627086611, IntKind.u64.wrap (a0_0), IntKind.u64.wrap (a0_1), a0_2, a0_3, IntKind.u64.wrap (a0_4)] : List Int)) (inner := [.int .u64 627086611, .int .u64 (IntKind.u64.wrap (a0_0)), .int .u64 (IntKind.u64.wrap (a0_1)), .int .u64 a0_2, .int .u64 a0_3, .int .u64 (IntKind.u64.wrap (a0_4))]) (ok := fun _ => True) (okp := fun _ => True) ?hr ?hp (fun _ hk => hk) trivial (Below.refl _ _) (Nat.le_refl _) (by simp) ?_; (case hd => rfl); (case hg => rfl); (case hr => first | (go_simp; done) | (go_simp; rfl) | (go_simp; simp only [IntKind.wrap_u32, Int.emod_add_emod, Int.add_emod_emod])); (case hp => exact (Reps.one (show Kd.M (Kd.int .u64) _ _ _ 627086611 [.int .u64 627086611] from rfl) (Reps.one (show Kd.M (Kd.int .u64) _ _ _ (IntKind.u64.wrap (a0_0)) [.int .u64 (IntKind.u64.wrap (a0_0))] from rfl) (Reps.one (show Kd.M (Kd.int .u64) _ _ _ (IntKind.u64.wrap (a0_1)) [.int .u64 (IntKind.u64.wrap (a0_1))] from rfl) (Reps.one (show Kd.M (Kd.int .u64) _ _ _ a0_2 [.int .u64 a0_2] from rfl) (Reps.one (show Kd.M (Kd.int .u64) _ _ _ a0_3 [.int .u64 a0_3] from rfl) (Reps.one (show Kd.M (Kd.int .u64) _ _ _ (IntKind.u64.wrap (a0_4)) [.int .u64 (IntKind.u64.wrap (a0_4))] from rfl) (Reps.none _ _)))))))); intro v385 w23 ho24 hb hg_ hnew_; clear hg_ hnew_; (first | rw [← Ny384.out] at ho24 | (simp only [Int.reduceToNat] at ho24; rw [← Ny384.out] at ho24)); have n0_ := Aside0.mk (Kd.R_below (by (with_reducible repeat (first | apply Kd.R_alloc | apply Kd.R_drewN | apply Kd.R_drew)); exact HO383.out) hb); have n1_ := Aside0.mk (Kd.R_lower ho24 (below_size (by repeat (first | (with_reducible first | exact HB.out | apply below_alloc | apply pw_below_drewN | apply below_drew1 | refine below_set ?_ GE368.out) | exact HB.out)))); have n2_ := Aside0.mk (blk_below (g := gb368) (o := .cells #[.int .u16 a0_0, .int .u16 a0_1, .int .u64 a0_2, .int .u64 a0_3, .int .u32 a0_4, .slice A0_5 l0_5.length c0_5] 61 (0, 0)) (by (with_reducible repeat (first | refine blk_drewN ?_ _ | refine blk_drew ?_ | refine blk_alloc ?_ _)); exact BK368.out) hb); have n3_ := Aside0.mk (below_step (by repeat (first | (with_reducible first | exact HB.out | apply below_alloc | apply pw_below_drewN | apply below_drew1 | refine below_set ?_ GE368.out) | exact HB.out)) hb); clear HO383; clear BK368; clear HB; have HO383 := n0_; have HO386 := n1_; have BK368 := n2_; have HB := n3_; clear n0_ n1_ n2_ n3_; clear hb ho24; obtain ⟨Ao25, co25, eo25⟩ := Kd.R_slice HO383.out; subst eo25; obtain ⟨Ao26, co26, eo26⟩ := Kd.R_slice HO386.out; subst eo26) | ((with_reducible refine gate_callee (f := 35) rfl ?_); refine goesL_ (some 28) rfl rfl Tryd.func35 (by kernel_rfl) rfl #[.slice Ao25 y381.length co25, .slice Ao26 y384.length co26] rfl (by (try simp only [List.map_toArray, List.map_cons, List.map_nil]); first | done | rfl | (simp only [List.length_drop, List.length_take]; rfl) | (simp only [List.length_drop, List.length_take]; (repeat rw [Nat.min_eq_left (by simp only [eq_iff_iff, iff_true] at *; omega)]); rfl)) ?_; (with_reducible refine (coamingref06_Pack.calls k _ _ y381 _ _ y384 t387 _ ?side1 ?side2 ?side3 ?side4 A17.out).mono ?_); (case side1 => repeat (first | exact (Kd.R_reads' HO383.out).2.2 | (with_reducible refine Kd.C_alloc ?_ _) | (with_reducible refine Kd.C_drewN ?_ _) | (with_reducible refine Kd.C_drew ?_))); (case side2 => exact (Kd.R_reads' HO383.out).2.1); (case side3 => repeat (first | exact (Kd.R_reads' HO386.out).2.2 | (with_reducible refine Kd.C_alloc ?_ _) | (with_reducible refine Kd.C_drewN ?_ _) | (with_reducible refine Kd.C_drew ?_))); (case side4 => exact (Kd.R_reads' HO386.out).2.1); rintro e w27 ⟨v388, rfl, ho0, hb⟩; refine ⟨_, rfl, ?_⟩; have n0_ := Aside0.mk (Kd.R_below (by (with_reducible repeat (first | apply Kd.R_alloc | apply Kd.R_drewN | apply Kd.R_drew)); exact HO383.out) hb); have n1_ := Aside0.mk (Kd.R_below (by (with_reducible repeat (first | apply Kd.R_alloc | apply Kd.R_drewN | apply Kd.R_drew)); exact HO386.out) hb); have n2_ := Aside0.mk (Kd.R_lower ho0 (below_size (by repeat (first | (with_reducible first | exact HB.out | apply below_alloc | apply pw_below_drewN | apply below_drew1 | refine below_set ?_ GE368.out) | exact HB.out)))); have n3_ := Aside0.mk (blk_below (g := gb368) (o := .cells #[.int .u16 a0_0, .int .u16 a0_1, .int .u64 a0_2, .int .u64 a0_3, .int .u32 a0_4, .slice A0_5 l0_5.length c0_5] 61 (0, 0)) (by (with_reducible repeat (first | refine blk_drewN ?_ _ | refine blk_drew ?_ | refine blk_alloc ?_ _)); exact BK368.out) hb); have n4_ := Aside0.mk (below_step (by repeat (first | (with_reducible first | exact HB.out | apply below_alloc | apply pw_below_drewN | apply below_drew1 | refine below_set ?_ GE368.out) | exact HB.out)) hb); clear HO383; clear HO386; clear BK368; clear HB; have HO383 := n0_; have HO386 := n1_; have HO389 := n2_; have BK368 := n3_; have HB := n4_; clear n0_ n1_ n2_ n3_ n4_; (try clear hb); (try clear hb2); (try clear hk); (try clear hi); (try clear ho0); have hcz28_0 : w27.cell? ⟨gb368, 0, none⟩ = some (.int .u16 a0_0) := (blk_cell BK368.out 0).trans rfl; have hcz28_1 : w27.cell? ⟨gb368, 1, none⟩ = some (.int .u16 a0_1) := (blk_cell BK368.out 1).trans rfl; have hcz28_2 : w27.cell? ⟨gb368, 2, none⟩ = some (.int .u64 a0_2) := (blk_cell BK368.out 2).trans rfl; have hcz28_3 : w27.cell? ⟨gb368, 3, none⟩ = some (.int .u64 a0_3) := (blk_cell BK368.out 3).trans rfl; have hcz28_4 : w27.cell? ⟨gb368, 4, none⟩ = some (.int .u32 a0_4) := (blk_cell BK368.out 4).trans rfl; have hcz28_5 : w27.cell? ⟨gb368, 5, none⟩ = some (.slice A0_5 l0_5.length c0_5) := (blk_cell BK368.out 5).trans rfl; have hfz28_0 := blk_frozen BK368.out 0; have hfz28_1 := blk_frozen BK368.out 1; have hfz28_2 := blk_frozen BK368.out 2; have hfz28_3 := blk_frozen BK368.out 3; have hfz28_4 := blk_frozen BK368.out 4; have hfz28_5 := blk_frozen BK368.out 5))
  go_ret
  exact ⟨_, by first | rfl | (simp [errW_none, errW_some] <;> rfl) | (simp [*, errW_none, errW_some] <;> rfl), by (with_reducible repeat (first | apply Kd.R_alloc | apply Kd.R_drewN | apply Kd.R_drew)); exact HO389.out, by repeat (first | (with_reducible first | exact HB.out | apply below_alloc | apply pw_below_drewN | apply below_drew1 | refine below_set ?_ GE368.out) | exact HB.out)⟩
end Go.Proofs.YtgljicdpcapgnaaDoor.PBase
namespace Go.Proofs.YtgljicdpcapgnaaDoor.PBase
open Go.RowKit Go.Proofs.YtgljicdpcapgnaaDoorW.PrintWords Go.Proofs.YtgljicdpcapgnaaDoorW.PrintLast Go.Proofs.YtgljicdpcapgnaaDoorW.PrintMore
attribute [local go_sem] max2_int min2_int max_two min_two max_three min_three max_four min_four   -- for this text's walks alone
set_option linter.unusedVariables false
set_option linter.unusedSimpArgs false
def conn_refused.f (a0 : Int) : Option (Int) := if a0 = 74 then (some 2147483651) else (if a0 = 50 then (some 2147483654) else (if a0 = 51 then (some 2147483654) else (some 2147483650)))
set_option maxHeartbeats 8000000 in
set_option maxRecDepth 100000 in
theorem conn_refused.calls (a0 : Int) (r : Int) (w : World) (h : conn_refused.f a0 = some r) :
  Calls Tryd.prog 83 #[.int .u16 a0] w fun e w' => e = .returned (.int .u32 r) ∧ Drawn0 w w' := by
 have H : (if a0 = 74 then (some 2147483651) else (if a0 = 50 then (some 2147483654) else (if a0 = 51 then (some 2147483654) else (some 2147483650)))) = some r := h
 clear h
 by_cases c2 : a0 = 74
 ·rw [if_pos c2] at H
  have c2b0 : (a0 == 74) = true := beq_iff_eq.mpr c2
  have c2b1 : (a0 != 74) = false := bne_eq_false_iff_eq.mpr c2
  clear c2
  obtain rfl := Option.some.inj H
  go_enter Tryd.func83, Tryd.ntmps83
  go_wp2
  go_ret
  exact ⟨by first | rfl | (simp; done) | (simp [*]; done), by repeat (first | exact Drawn0.refl _ | apply Drawn0.step)⟩
 ·rw [if_neg c2] at H
  have c2b0 : (a0 == 74) = false := beq_eq_false_iff_ne.mpr c2
  have c2b1 : (a0 != 74) = true := bne_iff_ne.mpr c2
  by_cases c3 : a0 = 50
  ·rw [if_pos c3] at H
   have c3b0 : (a0 == 50) = true := beq_iff_eq.mpr c3
   have c3b1 : (a0 != 50) = false := bne_eq_false_iff_eq.mpr c3
   clear c3
   obtain rfl := Option.some.inj H
   go_enter Tryd.func83, Tryd.ntmps83
   go_wp2
   go_ret
   exact ⟨by first | rfl | (simp; done) | (simp [*]; done), by repeat (first | exact Drawn0.refl _ | apply Drawn0.step)⟩
  ·rw [if_neg c3] at H
   have c3b0 : (a0 == 50) = false := beq_eq_false_iff_ne.mpr c3
   have c3b1 : (a0 != 50) = true := bne_iff_ne.mpr c3
   by_cases c4 : a0 = 51
   ·rw [if_pos c4] at H
    have c4b0 : (a0 == 51) = true := beq_iff_eq.mpr c4
    have c4b1 : (a0 != 51) = false := bne_eq_false_iff_eq.mpr c4
    clear c4
    obtain rfl := Option.some.inj H
    go_enter Tryd.func83, Tryd.ntmps83
    go_wp2
    go_ret
    exact ⟨by first | rfl | (simp; done) | (simp [*]; done), by repeat (first | exact Drawn0.refl _ | apply Drawn0.step)⟩
   ·rw [if_neg c4] at H
    have c4b0 : (a0 == 51) = false := beq_eq_false_iff_ne.mpr c4
    have c4b1 : (a0 != 51) = true := bne_iff_ne.mpr c4
    obtain rfl := Option.some.inj H
    go_enter Tryd.func83, Tryd.ntmps83
    go_wp2
    go_ret
    exact ⟨by first | rfl | (simp; done) | (simp [*]; done), by repeat (first | exact Drawn0.refl _ | apply Drawn0.step)⟩
end Go.Proofs.YtgljicdpcapgnaaDoor.PBase
set_option linter.unusedVariables false
set_option linter.unusedSimpArgs false
namespace Go.Proofs.YtgljicdpcapgnaaDoor.Sp
open Go.RowKit Go.Proofs.YtgljicdpcapgnaaDoor.PBase Go.Proofs.YtgljicdpcapgnaaDoorW.PrintWords Go.Proofs.YtgljicdpcapgnaaDoorW.PrintLast Go.Proofs.YtgljicdpcapgnaaDoorW.PrintMore
theorem w64 (n : Int) (h0 : -9223372036854775808 ≤ n) (h1 : n ≤ 9223372036854775807) : wrap64 n = n := by unfold wrap64; omega
theorem and1 (x : Int) (h0 : 0 ≤ x) (h1 : x < 256) : Go.bits .and .u8 x 1 = x % 2 := bits_mask .u8 8 (by decide) wraps_u8 1 (by decide) x h0 (by omega)
theorem bit_at (l : List Int) : ∀ p, p < 8 * l.length → (bitsOf l).getD p 0 = l.getD (p / 8) 0 / 2 ^ (7 - p % 8) % 2 := by
  induction l with
  | nil => intro p h; simp at h
  | cons x l ih =>
    intro p h
    rw [bitsOf_cons]
    match p, h with
    | 0, _ => simp [bits8]
    | 1, _ => simp [bits8]
    | 2, _ => simp [bits8]
    | 3, _ => simp [bits8]
    | 4, _ => simp [bits8]
    | 5, _ => simp [bits8]
    | 6, _ => simp [bits8]
    | 7, _ => simp [bits8]
    | q + 8, h =>
      have h1 : (q + 8) / 8 = q / 8 + 1 := by omega
      have h2 : (q + 8) % 8 = q % 8 := by omega
      rw [h1, h2, List.getD_cons_succ, ← ih q (by simp only [List.length_cons] at h; omega)]
      simp [bits8, List.getD_eq_getElem?_getD]
theorem rd_byte (l : List Int) (hb : Bytes l) (i : Int) : 0 ≤ rd l i ∧ rd l i ≤ 255 := by
  unfold rd
  by_cases h : i.toNat < l.length
  · rw [List.getD_eq_getElem?_getD, List.getElem?_eq_getElem h]
    exact hb _ (List.getElem_mem h)
  · rw [List.getD_eq_getElem?_getD, List.getElem?_eq_none (by omega)]
    simp
theorem w_in (l : List Int) (hl : l.length ≤ 1000000) (hb : Bytes l) (k : Nat) (x : ByteArray) (i n p : Int) (h0 : 0 ≤ p) (h1 : p < i + 5) (h2 : i ≤ 8 * l.length) (hn0 : 0 ≤ n) (hn1 : n < 1024) :
    coamingref04_Write.l1 (k + 1) l x i n p = coamingref04_Write.l1 k l x i (2 * n + (bitsOf l).getD p.toNat 0) (p + 1) := by
  have e1 : wrap64 (i + 5) = i + 5 := w64 _ (by omega) (by omega)
  have e2 : wrap64 (8 * (l.length : Int)) = 8 * l.length := w64 _ (by omega) (by omega)
  have e3 : wrap64 (p + 1) = p + 1 := w64 _ (by omega) (by omega)
  have e4 : wrap64 (2 * n) = 2 * n := w64 _ (by omega) (by omega)
  have e5 : wrap64 (2 * n + 1) = 2 * n + 1 := w64 _ (by omega) (by omega)
  rw [coamingref04_Write.l1, e1, e2, e3, e4, e5, if_pos h1]
  by_cases hp : p < 8 * (l.length : Int)
  · have f1 : wrap64 (Int.tdiv p 8) = p / 8 := by rw [Int.tdiv_eq_ediv_of_nonneg h0]; exact w64 _ (by omega) (by omega)
    have f2 : IntKind.u64.wrap (wrap64 (7 - Int.tmod p 8)) = 7 - p % 8 := by rw [Int.tmod_eq_emod_of_nonneg h0, w64 _ (by omega) (by omega)]; exact Bt.wraps_u64 _ (by omega) (by omega)
    rw [if_pos hp, f1, f2, if_pos (by omega), if_pos (by omega), if_pos (by omega)]
    have f3 : shr .u8 (rd l (p / 8)) (7 - p % 8) = rd l (p / 8) / 2 ^ (7 - p.toNat % 8) := by
      unfold shr
      have : (7 - p % 8).toNat = 7 - p.toNat % 8 := by omega
      rw [this, Nat.min_eq_left (by show 7 - p.toNat % 8 ≤ 8; omega)]
    have f4 : rd l (p / 8) = l.getD (p.toNat / 8) 0 := by unfold rd; rw [show (p / 8).toNat = p.toNat / 8 by omega]
    have hby := rd_byte l hb (p / 8)
    have g0 : 0 ≤ rd l (p / 8) / 2 ^ (7 - p.toNat % 8) := Int.ediv_nonneg hby.1 (Int.le_of_lt (Int.pow_pos (by decide)))
    have g1 : rd l (p / 8) / 2 ^ (7 - p.toNat % 8) ≤ rd l (p / 8) := Int.ediv_le_self _ hby.1
    rw [f3, and1 _ g0 (by omega)]
    have f5 := bit_at l p.toNat (by omega)
    rw [← f4] at f5
    rw [f5]
    generalize rd l (p / 8) / 2 ^ (7 - p.toNat % 8) % 2 = b at *
    have hb2 : b = 0 ∨ b = 1 := by
      have := BitsOf l
      rw [List.getD_eq_getElem?_getD, List.getElem?_eq_getElem (by rw [bitsOf_length]; omega)] at f5
      have h9 : 0 ≤ b ∧ b ≤ 1 := by rw [← f5]; exact this _ (List.getElem_mem _)
      omega
    rcases hb2 with rfl | rfl
    · rw [if_neg (by decide), Int.add_zero]
    · rw [if_pos rfl]
  · rw [if_neg hp]
    have : (bitsOf l).getD p.toNat 0 = 0 := by
      rw [List.getD_eq_getElem?_getD, List.getElem?_eq_none (by rw [bitsOf_length]; omega)]; rfl
    rw [this, Int.add_zero]
theorem sgs_extract (n : Int) (h0 : 0 ≤ n) (h1 : n < 32) : (ByteArray.mk #[97, 98, 99, 100, 101, 102, 103, 104, 105, 106, 107, 108, 109, 110, 111, 112, 113, 114, 115, 116, 117, 118, 119, 120, 121, 122, 50, 51, 52, 53, 54, 55]).extract n.toNat (n + 1).toNat = ⟨#[sg n]⟩ := by
  have h : ∀ i : Fin 32, ((ByteArray.mk #[97, 98, 99, 100, 101, 102, 103, 104, 105, 106, 107, 108, 109, 110, 111, 112, 113, 114, 115, 116, 117, 118, 119, 120, 121, 122, 50, 51, 52, 53, 54, 55]).extract i.val (i.val + 1)).data = #[sg (i.val : Int)] := by decide
  have h2 := h ⟨n.toNat, by omega⟩
  have e1 : (n + 1).toNat = n.toNat + 1 := by omega
  rw [e1]
  apply ByteArray.ext
  rw [h2]
  simp only [Int.toNat_of_nonneg h0]
theorem getD01 {l : List Int} (h : Bits l) (i : Nat) : 0 ≤ l.getD i 0 ∧ l.getD i 0 ≤ 1 := by
  rw [List.getD_eq_getElem?_getD]
  cases e : l[i]? with
  | none => simp
  | some b => exact h b (List.mem_of_getElem? e)
theorem w_five (l : List Int) (hl : l.length ≤ 1000000) (hb : Bytes l) (k : Nat) (x : ByteArray) (i : Int) (h0 : 0 ≤ i) (h2 : i < 8 * l.length) (hx : x.size ≤ 100000000) :
    coamingref04_Write.l0 (k + 7) l x i = coamingref04_Write.l0 k l (x ++ ⟨#[sg (16 * (bitsOf l).getD i.toNat 0 + 8 * (bitsOf l).getD (i + 1).toNat 0 + 4 * (bitsOf l).getD (i + 1 + 1).toNat 0 + 2 * (bitsOf l).getD (i + 1 + 1 + 1).toNat 0 + (bitsOf l).getD (i + 1 + 1 + 1 + 1).toNat 0)]⟩) (i + 5) := by
  have hB := BitsOf l
  have b0 := getD01 hB i.toNat
  have b1 := getD01 hB (i + 1).toNat
  have b2 := getD01 hB (i + 1 + 1).toNat
  have b3 := getD01 hB (i + 1 + 1 + 1).toNat
  have b4 := getD01 hB (i + 1 + 1 + 1 + 1).toNat
  rw [coamingref04_Write.l0, w64 (8 * (l.length : Int)) (by omega) (by omega), if_pos h2]
  rw [w_in l hl hb _ x i 0 i h0 (by omega) (by omega) (by omega) (by omega)]
  rw [w_in l hl hb _ x i _ (i + 1) (by omega) (by omega) (by omega) (by omega) (by omega)]
  rw [w_in l hl hb _ x i _ (i + 1 + 1) (by omega) (by omega) (by omega) (by omega) (by omega)]
  rw [w_in l hl hb _ x i _ (i + 1 + 1 + 1) (by omega) (by omega) (by omega) (by omega) (by omega)]
  rw [w_in l hl hb _ x i _ (i + 1 + 1 + 1 + 1) (by omega) (by omega) (by omega) (by omega) (by omega)]
  generalize (bitsOf l).getD i.toNat 0 = a0 at *
  generalize (bitsOf l).getD (i + 1).toNat 0 = a1 at *
  generalize (bitsOf l).getD (i + 1 + 1).toNat 0 = a2 at *
  generalize (bitsOf l).getD (i + 1 + 1 + 1).toNat 0 = a3 at *
  generalize (bitsOf l).getD (i + 1 + 1 + 1 + 1).toNat 0 = a4 at *
  rw [show 2 * (2 * (2 * (2 * (2 * 0 + a0) + a1) + a2) + a3) + a4 = 16 * a0 + 8 * a1 + 4 * a2 + 2 * a3 + a4 by omega]
  have g0 : 0 ≤ 16 * a0 + 8 * a1 + 4 * a2 + 2 * a3 + a4 := by omega
  have g1 : 16 * a0 + 8 * a1 + 4 * a2 + 2 * a3 + a4 < 32 := by omega
  generalize 16 * a0 + 8 * a1 + 4 * a2 + 2 * a3 + a4 = n at *
  rw [coamingref04_Write.l1, w64 (i + 5) (by omega) (by omega), if_neg (by omega), w64 (n + 1) (by omega) (by omega), if_pos g0, if_pos (by omega), if_pos (by omega), sgs_extract n g0 g1]
  rw [if_pos (by show x.size + 1 ≤ _; omega)]
theorem ba_append (x : ByteArray) (a : UInt8) (l : List UInt8) : (x ++ ⟨#[a]⟩) ++ (⟨l.toArray⟩ : ByteArray) = x ++ ⟨(a :: l).toArray⟩ := by
  apply ByteArray.ext
  simp [ByteArray.data_append]
theorem w_all (l : List Int) (hl : l.length ≤ 1000000) (hb : Bytes l) (d : Nat) : ∀ (k : Nat) (x : ByteArray) (i : Nat), 8 * l.length ≤ i + d → 7 * d < k → x.size + d ≤ 100000000 →
    coamingref04_Write.l0 k l x i = some (x ++ ⟨(enc ((bitsOf l).drop i)).toArray⟩) := by
  induction d with
  | zero =>
    intro k x i h hk hx
    obtain ⟨k, rfl⟩ : ∃ m, k = m + 1 := ⟨k - 1, by omega⟩
    rw [coamingref04_Write.l0, w64 (8 * (l.length : Int)) (by omega) (by omega), if_neg (by omega), List.drop_of_length_le (by rw [bitsOf_length]; omega)]
    congr 1
    apply ByteArray.ext
    simp [enc, ByteArray.data_append]
  | succ d ih =>
    intro k x i h hk hx
    by_cases hi : i < 8 * l.length
    · obtain ⟨k, rfl⟩ : ∃ m, k = m + 7 := ⟨k - 7, by omega⟩
      rw [w_five l hl hb k x i (by omega) (by omega) (by omega)]
      have e5 : ((i : Int) + 5) = ((i + 5 : Nat) : Int) := by omega
      rw [e5, ih k _ (i + 5) (by omega) (by omega) (by rw [ByteArray.size_append]; show x.size + 1 + d ≤ _; omega)]
      rw [enc_step ((bitsOf l).drop i) (by intro e; have := congrArg List.length e; rw [List.length_drop, bitsOf_length] at this; simp at this; omega)]
      rw [ba_append]
      congr 3
      simp only [List.getD_eq_getElem?_getD, List.getElem?_drop, List.drop_drop]
      rfl
    · obtain ⟨k, rfl⟩ : ∃ m, k = m + 1 := ⟨k - 1, by omega⟩
      rw [coamingref04_Write.l0, w64 (8 * (l.length : Int)) (by omega) (by omega), if_neg (by omega), List.drop_of_length_le (by rw [bitsOf_length]; omega)]
      congr 1
      apply ByteArray.ext
      simp [enc, ByteArray.data_append]
theorem refWrite_is (l : List Int) (hl : l.length ≤ 1000000) (hb : Bytes l) (k : Nat) (hk : 56 * l.length < k) : coamingref04_Write.f k l = some ⟨(enc (bitsOf l)).toArray⟩ := by
  unfold coamingref04_Write.f
  have h := w_all l hl hb (8 * l.length) k ⟨#[]⟩ 0 (by omega) (by omega) (by show 0 + 8 * l.length ≤ _; omega)
  rw [show ((0 : Nat) : Int) = 0 from rfl] at h
  rw [h]
  congr 1
def bs (s : ByteArray) : List Int := s.data.toList.map fun c => (c.toNat : Int)
theorem bs_length (s : ByteArray) : (bs s).length = s.size := by simp [bs]
theorem bs_drop (s : ByteArray) (i : Nat) (h : i < s.size) : (bs s).drop i = bt s i :: (bs s).drop (i + 1) := by
  rw [List.drop_eq_getElem_cons (by rw [bs_length]; exact h)]
  congr 1
  simp [bs, bt, h]
  rfl
theorem number_is (k : Nat) (c : Int) (h0 : 0 ≤ c) (h1 : c ≤ 255) (hk : 0 < k) : spell_number.f k c = some (match dg c with | some d => (d, true) | none => (0, false)) := by
  obtain ⟨k, rfl⟩ : ∃ m, k = m + 1 := ⟨k - 1, by omega⟩
  have h : ∀ c : Fin 256, spell_number.f 1 (c.val : Int) = some (match dg (c.val : Int) with | some d => (d, true) | none => (0, false)) := by decide +kernel
  have h2 := h ⟨c.toNat, by omega⟩
  simp only [Int.toNat_of_nonneg h0] at h2
  unfold spell_number.f at h2 ⊢
  simp only [spell_number.j0] at h2 ⊢
  exact h2
theorem number_some (k : Nat) (c v : Int) (h0 : 0 ≤ c) (h1 : c ≤ 255) (hk : 0 < k) (h : dg c = some v) : spell_number.f k c = some (v, true) := by rw [number_is k c h0 h1 hk, h]
theorem number_none (k : Nat) (c : Int) (h0 : 0 ≤ c) (h1 : c ≤ 255) (hk : 0 < k) (h : dg c = none) : spell_number.f k c = some (0, false) := by rw [number_is k c h0 h1 hk, h]
theorem fold_none {α : Type} {c : Int} {cs : List Int} {z : α} {f : List Int → α} (h : dg c = none) : (digits (c :: cs)).elim z f = z := by rw [digits, h]; rfl
theorem fold_some {α : Type} {c v : Int} {cs : List Int} {z : α} {f : List Int → α} (h : dg c = some v) : (digits (c :: cs)).elim z f = (digits cs).elim z (fun ds => f (v :: ds)) := by
  rw [digits, h]
  cases digits cs <;> rfl
end Go.Proofs.YtgljicdpcapgnaaDoor.Sp
set_option linter.unusedVariables false
set_option linter.unusedSimpArgs false
namespace Go.Proofs.YtgljicdpcapgnaaDoor.Sp
open Go.RowKit Go.Proofs.YtgljicdpcapgnaaDoor.PBase Go.Proofs.YtgljicdpcapgnaaDoorW.PrintWords Go.Proofs.YtgljicdpcapgnaaDoorW.PrintLast Go.Proofs.YtgljicdpcapgnaaDoorW.PrintMore
theorem val_foldl (B : List Int) : ∀ a : Int, B.foldl (fun h b => 2 * h + b) a = a * 2 ^ B.length + val B := by
  induction B with
  | nil => intro a; simp [val]
  | cons b B ih =>
    intro a
    have h1 := ih (2 * a + b)
    have h2 := ih (2 * 0 + b)
    simp only [List.foldl_cons, val, List.length_cons] at *
    rw [h1, h2, Int.pow_succ, show (2 : Int) * 0 + b = b by omega, Int.add_mul]
    rw [show a * (2 ^ B.length * 2) = 2 * a * 2 ^ B.length by rw [Int.mul_comm (2 ^ B.length) 2, ← Int.mul_assoc, Int.mul_comm a 2]]
    omega
theorem val_append (A B : List Int) : val (A ++ B) = val A * 2 ^ B.length + val B := by
  show (A ++ B).foldl _ 0 = _
  rw [List.foldl_append]
  exact val_foldl B _
theorem val_range (B : List Int) (h : Bits B) : 0 ≤ val B ∧ val B < 2 ^ B.length := by
  induction B with
  | nil => simp [val]
  | cons b B ih =>
    have hb := h.head
    have := ih h.tail
    have e : val (b :: B) = b * 2 ^ B.length + val B := by rw [← val_foldl B b]; simp [val]
    rw [e, List.length_cons, Int.pow_succ]
    have hp : (0 : Int) < 2 ^ B.length := Int.pow_pos (by decide)
    rcases (by omega : b = 0 ∨ b = 1) with rfl | rfl <;> omega
theorem val_bits5 (d : Int) (h0 : 0 ≤ d) (h1 : d < 32) : val (bits5 d) = d := by simp only [val, bits5, List.foldl]; omega
theorem val_five (R : List Int) (d : Int) (h0 : 0 ≤ d) (h1 : d < 32) : val (R ++ bits5 d) = val R * 32 + d := by
  rw [val_append, val_bits5 d h0 h1]
  rfl
theorem val_split (L : List Int) (h : Bits L) (n : Nat) (hn : L.length = 8 + n) : val L / 2 ^ n = val (L.take 8) ∧ val L % 2 ^ n = val (L.drop 8) := by
  have e := val_append (L.take 8) (L.drop 8)
  rw [List.take_append_drop, List.length_drop, show L.length - 8 = n by omega] at e
  have hb : Bits (L.take 8 ++ L.drop 8) := by rw [List.take_append_drop]; exact h
  have hr := val_range _ hb.right
  rw [List.length_drop, show L.length - 8 = n by omega] at hr
  have hp : (0 : Int) < 2 ^ n := Int.pow_pos (by decide)
  rw [e]
  constructor
  · rw [Int.add_comm, Int.add_mul_ediv_right _ _ (by omega), Int.ediv_eq_zero_of_lt hr.1 hr.2]
    omega
  · rw [Int.add_comm, Int.add_mul_emod_self_right, Int.emod_eq_of_lt hr.1 hr.2]
theorem pow7 : ∀ m, m < 8 → (2 : Int) ^ m ≤ 128 := by decide
theorem pow12 : ∀ m, m < 13 → (2 : Int) ^ m ≤ 4096 := by decide
theorem pow_le7 (R : List Int) (h : Bits R) (hl : R.length < 8) : 0 ≤ val R ∧ val R < 128 := by
  have := val_range R h
  have h2 := pow7 R.length hl
  omega
theorem pow_le12 (L : List Int) (h : Bits L) (hl : L.length ≤ 12) : 0 ≤ val L ∧ val L < 4096 := by
  have := val_range L h
  have h2 := pow12 L.length (by omega)
  omega
theorem five_length (R : List Int) (v : Int) : (R ++ bits5 v).length = R.length + 5 := by simp [bits5]
theorem rd_or (R : List Int) (v : Int) (hR : Bits R) (hl : R.length < 8) (h0 : 0 ≤ v) (h1 : v < 32) : Go.bits .or .u64 (IntKind.u64.wrap (val R * 32)) v = val (R ++ bits5 v) := by
  have hr := pow_le7 R hR hl
  rw [Bt.wraps_u64 _ (by omega) (by omega), Bt.or_u64 5 _ _ (by omega) (by omega) (by omega) h0 (by omega) (by omega), val_five R v h0 h1]
theorem rd_shr (k : IntKind) (hk : k.bits = 64) (L : List Int) (h : Bits L) (h8 : 8 ≤ L.length) (hl : L.length ≤ 12) : shr k (val L) ((L.drop 8).length : Nat) % 256 = val (L.take 8) := by
  have hn : (L.drop 8).length ≤ 4 := by rw [List.length_drop]; omega
  have hs := (val_split L h (L.drop 8).length (by rw [List.length_drop]; omega)).1
  have hb' : Bits (L.take 8 ++ L.drop 8) := by rw [List.take_append_drop]; exact h
  have hv := val8_of _ hb'.left (by rw [List.length_take]; omega)
  unfold shr
  rw [Int.toNat_natCast, Nat.min_eq_left (by omega), hs]
  omega
theorem rd_mask (L : List Int) (h : Bits L) (h8 : 8 ≤ L.length) (hl : L.length ≤ 12) : Go.bits .and .u64 (val L) (IntKind.u64.wrap (shl .u64 1 ((L.drop 8).length : Nat) - 1)) = val (L.drop 8) := by
  have hn : (L.drop 8).length ≤ 4 := by rw [List.length_drop]; omega
  have hs := (val_split L h (L.drop 8).length (by rw [List.length_drop]; omega)).2
  have hL := pow_le12 L h hl
  have e8 : shl .u64 1 ((L.drop 8).length : Nat) = IntKind.u64.wrap (2 ^ ((L.drop 8).length : Int).toNat) := by
    unfold shl
    rw [Int.toNat_natCast, Nat.min_eq_left (by show _ ≤ 64; omega), Int.one_mul]
  rw [e8, Bt.mask_low _ _ hL.1 (by omega) (by omega) (by omega), Int.toNat_natCast, hs]
theorem drop8_length (L : List Int) (h8 : 8 ≤ L.length) (hl : L.length ≤ 12) : wrap64 ((L.length : Nat) - 8 : Int) = ((L.drop 8).length : Nat) := by
  rw [w64 _ (by omega) (by omega), List.length_drop]; omega
def finR (p : List Int × List Int) : List Int × Int := if 5 ≤ p.2.length then ([], 40) else if val p.2 = 0 then (p.1, 0) else ([], 40)
theorem read_end (s : ByteArray) (k : Nat) (o R : List Int) (i : Nat) (hi : ¬ i < s.size) : spell_Read.l0 (k + 1) s o (val R) R.length s.size i = some ((digits ((bs s).drop i)).elim ([], 40) fun ds => finR (take8 ds o R)) := by
  rw [spell_Read.l0, if_neg (by omega), List.drop_of_length_le (by rw [bs_length]; omega)]
  show _ = some (finR (o, R))
  unfold finR
  by_cases h5 : 5 ≤ R.length
  · rw [if_pos (by omega), if_pos (show 5 ≤ (o, R).2.length from h5)]
  · rw [if_neg (by omega), if_neg (show ¬ 5 ≤ (o, R).2.length from h5)]
    by_cases hv : val R = 0
    · rw [if_pos hv, if_pos (show val (o, R).2 = 0 from hv)]
    · rw [if_neg hv, if_neg (show ¬ val (o, R).2 = 0 from hv)]
set_option maxHeartbeats 1000000 in
theorem read_all (s : ByteArray) (hs : s.size ≤ 1000000) (d : Nat) : ∀ (k : Nat) (o R : List Int) (i : Nat), s.size ≤ i + d → d + 1 < k → Bits R → R.length < 8 → o.length + d ≤ 10000000 →
    spell_Read.l0 k s o (val R) R.length s.size i = some ((digits ((bs s).drop i)).elim ([], 40) fun ds => finR (take8 ds o R)) := by
  induction d with
  | zero =>
    intro k o R i h hk hR hl ho
    obtain ⟨k, rfl⟩ : ∃ m, k = m + 1 := ⟨k - 1, by omega⟩
    exact read_end s k o R i (by omega)
  | succ d ih =>
    intro k o R i h hk hR hl ho
    obtain ⟨k, rfl⟩ : ∃ m, k = m + 1 := ⟨k - 1, by omega⟩
    by_cases hi : i < s.size
    · rw [spell_Read.l0, if_pos (by omega), if_pos (by omega), if_pos (by omega)]
      have hb := bt_range s i
      rw [bs_drop s i hi]
      cases hd : dg (bt s i) with
      | none => rw [number_none k _ hb.1 hb.2 (by omega) hd, Option.bind_some, if_neg (by decide), fold_none hd]
      | some v =>
        have hv := dg_range hd
        have e3 : wrap64 ((R.length : Int) + 5) = ((R ++ bits5 v).length : Nat) := by rw [w64 _ (by omega) (by omega), five_length]; omega
        have e4 : wrap64 ((i : Int) + 1) = ((i + 1 : Nat) : Int) := by rw [w64 _ (by omega) (by omega)]; omega
        have hL : Bits (R ++ bits5 v) := hR.append (Bits5 v)
        have hLl := five_length R v
        rw [number_some k _ v hb.1 hb.2 (by omega) hd, Option.bind_some, if_pos rfl, fold_some hd]
        rw [rd_or R v hR hl hv.1 hv.2, e3, e4]
        clear e3 e4
        by_cases h8 : 8 ≤ R.length + 5
        · have hb' : Bits ((R ++ bits5 v).take 8 ++ (R ++ bits5 v).drop 8) := by rw [List.take_append_drop]; exact hL
          have f1 := drop8_length (R ++ bits5 v) (by omega) (by omega)
          have f2 := rd_shr .u64 rfl (R ++ bits5 v) hL (by omega) (by omega)
          have f3 := rd_mask (R ++ bits5 v) hL (by omega) (by omega)
          have c1 : ((R ++ bits5 v).length : Int) ≥ 8 := by omega
          have c2 : (0 : Int) ≤ (((R ++ bits5 v).drop 8).length : Nat) := by omega
          have c3 : o.length < 140737488355328 := by omega
          rw [if_pos c1]
          rw [f1]
          rw [if_pos c2]
          rw [if_pos c3]
          rw [f2]
          rw [f3]
          clear f1 f2 f3 c3
          rw [ih k _ _ (i + 1) (by omega) (by omega) hb'.right (by rw [List.length_drop]; omega) (by rw [List.length_append, List.length_singleton]; omega)]
          have e9 : ∀ ds, take8 (v :: ds) o R = take8 ds (o ++ [val ((R ++ bits5 v).take 8)]) ((R ++ bits5 v).drop 8) := fun ds => by rw [take8, if_pos h8]
          simp only [e9]
        · rw [if_neg (by omega)]
          rw [ih k _ _ (i + 1) (by omega) (by omega) hL (by omega) (by omega)]
          have e9 : ∀ ds, take8 (v :: ds) o R = take8 ds o (R ++ bits5 v) := fun ds => by rw [take8, if_neg h8]
          simp only [e9]
    · exact read_end s k o R i hi
theorem read_is (s : ByteArray) (hs : s.size ≤ 1000000) (k : Nat) (hk : s.size + 1 < k) : spell_Read.f k s = some (readOf (bs s)) := by
  unfold spell_Read.f
  have h := read_all s hs s.size k [] [] 0 (by omega) hk (by intro b h; simp at h) (by simp) (by simp; omega)
  rw [show spell_Read.l0 k s [] 0 0 s.size 0 = spell_Read.l0 k s [] (val []) (([] : List Int).length : Nat) s.size ((0 : Nat) : Int) from rfl, h]
  unfold readOf finR
  rw [List.drop_zero]
  cases digits (bs s) <;> rfl
end Go.Proofs.YtgljicdpcapgnaaDoor.Sp
set_option linter.unusedVariables false
set_option linter.unusedSimpArgs false
namespace Go.Proofs.YtgljicdpcapgnaaDoor.Sp
open Go.RowKit Go.Proofs.YtgljicdpcapgnaaDoor.PBase Go.Proofs.YtgljicdpcapgnaaDoorW.PrintWords Go.Proofs.YtgljicdpcapgnaaDoorW.PrintLast Go.Proofs.YtgljicdpcapgnaaDoorW.PrintMore
theorem bs_of (l : List UInt8) : bs ⟨l.toArray⟩ = l.map fun c => (c.toNat : Int) := by simp [bs]
def finS (s : ByteArray) (o : List Int) : List Int × Int := if enc (bitsOf o) = s.data.toList then (o, 0) else ([], 40)
theorem map_nat_inj {a b : List UInt8} (h : a.map (fun c => (c.toNat : Int)) = b.map (fun c => (c.toNat : Int))) : a = b := by
  induction a generalizing b with
  | nil => cases b with
    | nil => rfl
    | cons _ _ => simp at h
  | cons x a ih => cases b with
    | nil => simp at h
    | cons y b =>
      simp only [List.map_cons, List.cons.injEq] at h
      rw [ih h.2]
      congr 1
      exact UInt8.toNat_inj.1 (by omega)
theorem readOf_ref (s : ByteArray) : ((digits (bs s)).elim ([], 40) fun ds => finS s (take8 ds [] []).1) = readOf (bs s) := by
  unfold readOf
  cases h : digits (bs s) with
  | none => rfl
  | some ds =>
    have hb := read_back h
    have hm := (digits_of h).2.1
    have e : s.data.toList = ds.map sg := map_nat_inj (by rw [List.map_map]; exact hm.symm)
    show finS s (take8 ds [] []).1 = _
    unfold finS
    rw [e]
    by_cases hc : enc (bitsOf (take8 ds [] []).1) = ds.map sg
    · obtain ⟨h1, h2⟩ := hb.1 hc
      rw [if_pos hc]
      show _ = if 5 ≤ (take8 ds [] []).2.length then _ else _
      rw [if_neg (by omega), if_pos h2]
    · rw [if_neg hc]
      show _ = if 5 ≤ (take8 ds [] []).2.length then _ else _
      by_cases h1 : 5 ≤ (take8 ds [] []).2.length
      · rw [if_pos h1]
      · rw [if_neg h1]
        by_cases h2 : val (take8 ds [] []).2 = 0
        · exact absurd (hb.2 ⟨by omega, h2⟩) hc
        · rw [if_neg h2]
theorem readOf_ok (s : ByteArray) (h : (readOf (bs s)).2 = 0) : enc (bitsOf (readOf (bs s)).1) = s.data.toList ∧ Bytes (readOf (bs s)).1 ∧ (readOf (bs s)).1.length ≤ s.size := by
  rw [← readOf_ref] at h ⊢
  cases hd : digits (bs s) with
  | none => rw [hd] at h; cases h
  | some ds =>
    rw [hd] at h
    have h' : (finS s (take8 ds [] []).1).2 = 0 := h
    show enc (bitsOf (finS s (take8 ds [] []).1).1) = _ ∧ Bytes (finS s (take8 ds [] []).1).1 ∧ (finS s (take8 ds [] []).1).1.length ≤ _
    unfold finS at h' ⊢
    split at h'
    · rename_i hc
      obtain ⟨t1, t2, t3, t4, t5⟩ := take8_spec ds [] [] (by intro b h; simp at h) (by simp) (by intro b h; simp at h)
      rw [if_pos hc]
      have := (digits_of hd).2.2
      rw [bs_length] at this
      exact ⟨hc, t4, by simp at t5; show (take8 ds [] []).1.length ≤ _; omega⟩
    · cases h'
theorem readOf_code (l : List Int) : (readOf l).2 = 0 ∨ (readOf l).2 = 40 := by
  unfold readOf
  cases digits l with
  | none => exact .inr rfl
  | some ds =>
    have key : ∀ p : List Int × List Int, (finR p).2 = 0 ∨ (finR p).2 = 40 := by
      intro p
      unfold finR
      split
      · exact .inr rfl
      · split
        · exact .inl rfl
        · exact .inr rfl
    exact key (take8 ds [] [])
theorem bytes_of_wf {l : List Int} (h : ∀ x ∈ l, (Lit.int .u8 x).wf = true) : Bytes l := fun x hx => by
  have := h x hx
  simpa [Lit.wf, IntKind.min, IntKind.max, IntKind.signed, IntKind.bits] using this
end Go.Proofs.YtgljicdpcapgnaaDoor.Sp
set_option linter.unusedVariables false
set_option linter.unusedSimpArgs false
namespace Go.Proofs.YtgljicdpcapgnaaDoor.Sh
def rot (v : Int) (n : Nat) : Int := bits .or .u32 (IntKind.u32.wrap (v * 2 ^ (32 - n))) (v / 2 ^ n)
def m32 (x : Int) : Int := x % 4294967296
def s0 (a : Int) : Int := bits .xor .u32 (bits .xor .u32 (rot a 7) (rot a 18)) (a / 8)
def s1 (b : Int) : Int := bits .xor .u32 (bits .xor .u32 (rot b 17) (rot b 19)) (b / 1024)
def keys : List Int := [
  0x428a2f98, 0x71374491, 0xb5c0fbcf, 0xe9b5dba5, 0x3956c25b, 0x59f111f1, 0x923f82a4, 0xab1c5ed5,
  0xd807aa98, 0x12835b01, 0x243185be, 0x550c7dc3, 0x72be5d74, 0x80deb1fe, 0x9bdc06a7, 0xc19bf174,
  0xe49b69c1, 0xefbe4786, 0x0fc19dc6, 0x240ca1cc, 0x2de92c6f, 0x4a7484aa, 0x5cb0a9dc, 0x76f988da,
  0x983e5152, 0xa831c66d, 0xb00327c8, 0xbf597fc7, 0xc6e00bf3, 0xd5a79147, 0x06ca6351, 0x14292967,
  0x27b70a85, 0x2e1b2138, 0x4d2c6dfc, 0x53380d13, 0x650a7354, 0x766a0abb, 0x81c2c92e, 0x92722c85,
  0xa2bfe8a1, 0xa81a664b, 0xc24b8b70, 0xc76c51a3, 0xd192e819, 0xd6990624, 0xf40e3585, 0x106aa070,
  0x19a4c116, 0x1e376c08, 0x2748774c, 0x34b0bcb5, 0x391c0cb3, 0x4ed8aa4a, 0x5b9cca4f, 0x682e6ff3,
  0x748f82ee, 0x78a5636f, 0x84c87814, 0x8cc70208, 0x90befffa, 0xa4506ceb, 0xbef9a3f7, 0xc67178f2]
def four (p : List Int) (t : Nat) : Int := p.getD (4 * t) 0 * 16777216 + p.getD (4 * t + 1) 0 * 65536 + p.getD (4 * t + 2) 0 * 256 + p.getD (4 * t + 3) 0
def next (w : List Int) (t : Nat) : Int := m32 (m32 (m32 (w.getD (t - 16) 0 + s0 (w.getD (t - 15) 0)) + w.getD (t - 7) 0) + s1 (w.getD (t - 2) 0))
def words (p : List Int) : Nat → List Int
  | 0 => []
  | t + 1 => words p t ++ [if t < 16 then four p t else next (words p t) t]
def big1 (e : Int) : Int := bits .xor .u32 (bits .xor .u32 (rot e 6) (rot e 11)) (rot e 25)
def big0 (a : Int) : Int := bits .xor .u32 (bits .xor .u32 (rot a 2) (rot a 13)) (rot a 22)
def ch (e f g : Int) : Int := bits .xor .u32 (bits .and .u32 e f) (bits .andNot .u32 g e)
def maj (a b c : Int) : Int := bits .xor .u32 (bits .xor .u32 (bits .and .u32 a b) (bits .and .u32 a c)) (bits .and .u32 b c)
structure V where
  (a b c d e f g h : Int)
def V.x (v : V) (k w : Int) : Int := m32 (m32 (m32 (m32 (v.h + big1 v.e) + ch v.e v.f v.g) + k) + w)
def V.y (v : V) : Int := m32 (big0 v.a + maj v.a v.b v.c)
def V.rnd (v : V) (k w : Int) : V := ⟨m32 (v.x k w + v.y), v.a, v.b, v.c, m32 (v.d + v.x k w), v.e, v.f, v.g⟩
def V.list (v : V) : List Int := [v.a, v.b, v.c, v.d, v.e, v.f, v.g, v.h]
def V.add (v s : V) : V := ⟨m32 (s.a + v.a), m32 (s.b + v.b), m32 (s.c + v.c), m32 (s.d + v.d), m32 (s.e + v.e), m32 (s.f + v.f), m32 (s.g + v.g), m32 (s.h + v.h)⟩
def v0 : V := ⟨0x6a09e667, 0xbb67ae85, 0x3c6ef372, 0xa54ff53a, 0x510e527f, 0x9b05688c, 0x1f83d9ab, 0x5be0cd19⟩
def rounds (ws : List Int) (v : V) : Nat → V
  | 0 => v
  | t + 1 => (rounds ws v t).rnd (keys.getD t 0) (ws.getD t 0)
def comp (s : V) (p : List Int) : V := (rounds (words p 64) s 64).add s
def feed (bs : List Int) : Nat → V
  | 0 => v0
  | k + 1 => comp (feed bs k) ((bs.drop (64 * k)).take 64)
def state (bs : List Int) : V := feed bs (bs.length / 64)
def tail (bs : List Int) : List Int := bs.drop (64 * (bs.length / 64))
def be8 (x : Int) : List Int := (List.range 8).map fun i => x / 2 ^ (56 - 8 * i) % 256
def zeros (n : Nat) : Nat := (119 - n % 64) % 64
def padded (bs : List Int) : List Int := bs ++ [128] ++ List.replicate (zeros bs.length) 0 ++ be8 (bs.length * 8)
def outs (s : V) : List Int := (List.range 32).map fun i => s.list.getD (i / 4) 0 / 2 ^ (24 - i % 4 * 8) % 256
def dig (bs : List Int) : List Int := outs (state (padded bs))
abbrev Bytes (l : List Int) : Prop := ∀ x ∈ l, 0 ≤ x ∧ x ≤ 255
theorem words_length (p : List Int) (t : Nat) : (words p t).length = t := by
  induction t with
  | zero => rfl
  | succ t ih => simp [words, ih]
theorem words_prefix (p : List Int) (t k : Nat) (h : t ≤ k) : (words p k).take t = words p t := by
  induction k with
  | zero => obtain rfl : t = 0 := by omega
            rfl
  | succ k ih =>
    by_cases ht : t = k + 1
    · subst ht
      rw [List.take_of_length_le (by rw [words_length]; exact Nat.le_refl _)]
    · rw [words, List.take_append_of_le_length (by rw [words_length]; omega), ih (by omega)]
theorem words_at (p : List Int) (t k i : Nat) (h : t ≤ k) (hi : i < t) : (words p k).getD i 0 = (words p t).getD i 0 := by
  rw [← words_prefix p t k h, List.getD_eq_getElem?_getD, List.getD_eq_getElem?_getD, List.getElem?_take, if_pos hi]
theorem feed_app (bs c : List Int) (k : Nat) (h : 64 * k ≤ bs.length) : feed (bs ++ c) k = feed bs k := by
  induction k with
  | zero => rfl
  | succ k ih =>
    rw [feed, feed, ih (by omega), List.drop_append_of_le_length (by omega), List.take_append_of_le_length (by rw [List.length_drop]; omega)]
theorem tail_length (bs : List Int) : (tail bs).length = bs.length % 64 := by
  rw [tail, List.length_drop]; omega
theorem state_full (bs c : List Int) (h : bs.length % 64 + c.length = 64) : state (bs ++ c) = comp (state bs) (tail bs ++ c) ∧ tail (bs ++ c) = [] := by
  have e : (bs ++ c).length / 64 = bs.length / 64 + 1 := by rw [List.length_append]; omega
  constructor
  · unfold state
    rw [e, feed, feed_app _ _ _ (by omega), List.drop_append_of_le_length (by omega)]
    congr 1
    rw [List.take_of_length_le]
    · rfl
    · rw [List.length_append, List.length_drop]; omega
  · unfold tail
    rw [e]
    exact List.drop_of_length_le (by rw [List.length_append]; omega)
theorem state_part (bs c : List Int) (h : bs.length % 64 + c.length < 64) : state (bs ++ c) = state bs ∧ tail (bs ++ c) = tail bs ++ c := by
  have e : (bs ++ c).length / 64 = bs.length / 64 := by rw [List.length_append]; omega
  constructor
  · unfold state
    rw [e, feed_app _ _ _ (by omega)]
  · unfold tail
    rw [e, List.drop_append_of_le_length (by omega)]
theorem list_length (v : V) : v.list.length = 8 := rfl
theorem be8_length (x : Int) : (be8 x).length = 8 := by simp [be8]
theorem outs_length (s : V) : (outs s).length = 32 := by simp [outs]
theorem be8_bytes (x : Int) (h : 0 ≤ x) : Bytes (be8 x) := by
  intro y hy
  simp only [be8, List.mem_map] at hy
  obtain ⟨i, _, rfl⟩ := hy
  omega
theorem padded_bytes (bs : List Int) (h : Bytes bs) : Bytes (padded bs) := by
  intro y hy
  simp only [padded, List.mem_append, List.mem_cons, List.not_mem_nil, or_false, List.mem_replicate] at hy
  rcases hy with ((hy | rfl) | ⟨_, rfl⟩) | hy
  · exact h y hy
  · omega
  · omega
  · exact be8_bytes _ (by omega) y hy
theorem bits_or_comm (k : IntKind) (x y : Int) : bits .or k x y = bits .or k y x := by simp only [bits, BitVec.or_comm]
end Go.Proofs.YtgljicdpcapgnaaDoor.Sh
set_option linter.unusedVariables false
set_option linter.unusedSimpArgs false
namespace Go.Proofs.YtgljicdpcapgnaaDoor
open Go.RowKit Go.Proofs.YtgljicdpcapgnaaDoorW.PrintWords
namespace Sh
def u32s (l : List Int) : Array Value := (l.map (Value.int .u32)).toArray
def hc (s p : List Int) (n : Int) : Array Value := (s.map (Value.int .u32) ++ p.map (Value.int .u8) ++ [Value.int .u64 n]).toArray
theorem hc_sum (s p : List Int) (n : Int) (i : Nat) (hs : i < s.length) : (hc s p n)[i]? = some (.int .u32 (s.getD i 0)) := by
  simp [hc, List.getElem?_append, hs, List.getD_eq_getElem?_getD, List.getElem?_eq_getElem hs]
theorem hc_rest (s p : List Int) (n : Int) (i : Nat) (hs : i < p.length) : (hc s p n)[s.length + i]? = some (.int .u8 (p.getD i 0)) := by
  simp [hc, List.getElem?_append, hs, List.getD_eq_getElem?_getD, List.getElem?_eq_getElem hs]
theorem hc_rest' (s : V) (p : List Int) (n : Int) (i : Nat) {o : Nat} (ho : o = 8) (hs : i < p.length) : (hc s.list p n)[o + i]? = some (.int .u8 (p.getD i 0)) := by
  subst ho
  exact hc_rest s.list p n i hs
theorem u32s_at (l : List Int) (i : Nat) (h : i < l.length) : (u32s l)[i]? = some (.int .u32 (l.getD i 0)) := by
  simp [u32s, List.getD_eq_getElem?_getD, List.getElem?_eq_getElem h]
theorem hc_n (s p : List Int) (n : Int) : (hc s p n)[s.length + p.length]? = some (.int .u64 n) := by
  simp [hc, List.getElem?_append]
theorem cellAt {w : World} {b : Nat} {C : Array Value} {t : TypeId} {fr : Nat × Nat} (h : w.heap[b]? = some (.cells C t fr)) (i : Nat) (v : Value) (hv : C[i]? = some v) : w.cell? ⟨b, i, none⟩ = some v := by
  unfold World.cell?
  rw [h]
  exact hv
theorem frozenAt {w : World} {b : Nat} {C : Array Value} {t : TypeId} (h : w.heap[b]? = some (.cells C t (0, 0))) (i : Nat) : w.frozen? ⟨b, i, none⟩ = false := by
  unfold World.frozen?
  rw [h]
  simp
theorem gb_refl (w : World) (r : Option Nat) : w.grownBy w r := ⟨rfl, rfl, rfl, Nat.le_refl _, fun _ _ _ => rfl⟩
theorem gb_trans {a b c : World} {r : Option Nat} (h : a.grownBy b r) (k : b.grownBy c r) : a.grownBy c r :=
  ⟨k.os.trans h.os, k.tape.trans h.tape, k.output.trans h.output, Nat.le_trans h.size k.size, fun i hi hr => (k.block i (Nat.lt_of_lt_of_le hi h.size) hr).trans (h.block i hi hr)⟩
theorem gb_below {a b c : World} {r : Option Nat} (h : a.grownBy b r) (k : Below a.heap.size b c) : a.grownBy c r :=
  ⟨k.os.trans h.os, k.tape.trans h.tape, k.output.trans h.output, Nat.le_trans h.size k.size, fun i hi hr => (k.block i hi).trans (h.block i hi hr)⟩
theorem gb_of_below {a b : World} {r : Option Nat} (k : Below a.heap.size a b) : a.grownBy b r := gb_below (gb_refl a r) k
theorem gb_set {a b : World} {k : Nat} (h : a.grownBy b (some k)) (i : Nat) (v : Value) : a.grownBy (b.setCell ⟨k, i, none⟩ v) (some k) := by
  refine gb_trans h ⟨rfl, rfl, rfl, ?_, fun j hj hr => Below.heap_setCell _ _ _ _ (fun e => hr (by rw [e]))⟩
  exact ((Below.refl 0 b).setCell (p := ⟨k, i, none⟩) (Nat.zero_le _) v).size
theorem row_set {w : World} {b : Nat} {C : Array Value} {t : TypeId} (h : w.heap[b]? = some (.cells C t (0, 0))) (i : Nat) (v : Value) : (w.setCell ⟨b, i, none⟩ v).heap[b]? = some (.cells (C.setIfInBounds i v) t (0, 0)) :=
  heap_setCell_same w b i C t v h
theorem row_far {w : World} {b : Nat} {o : Obj} (h : w.heap[b]? = some o) (k : Nat) (hk : b ≠ k) (i : Nat) (v : Value) : (w.setCell ⟨k, i, none⟩ v).heap[b]? = some o :=
  (Below.heap_setCell _ _ _ _ hk).trans h
theorem ror_7 (v : Int) : PBase.sha_ror.f v 7 = some (rot v 7) := by kernel_rfl
theorem ror_18 (v : Int) : PBase.sha_ror.f v 18 = some (rot v 18) := by kernel_rfl
theorem ror_17 (v : Int) : PBase.sha_ror.f v 17 = some (rot v 17) := by kernel_rfl
theorem ror_19 (v : Int) : PBase.sha_ror.f v 19 = some (rot v 19) := by kernel_rfl
theorem ror_6 (v : Int) : PBase.sha_ror.f v 6 = some (rot v 6) := by kernel_rfl
theorem ror_11 (v : Int) : PBase.sha_ror.f v 11 = some (rot v 11) := by kernel_rfl
theorem ror_25 (v : Int) : PBase.sha_ror.f v 25 = some (rot v 25) := by kernel_rfl
theorem ror_2 (v : Int) : PBase.sha_ror.f v 2 = some (rot v 2) := by kernel_rfl
theorem ror_13 (v : Int) : PBase.sha_ror.f v 13 = some (rot v 13) := by kernel_rfl
theorem ror_22 (v : Int) : PBase.sha_ror.f v 22 = some (rot v 22) := by kernel_rfl
theorem reads_at {w : World} {b o : Nat} {C : Array Value} {e : TypeId} {fr : Nat × Nat} (h : w.heap[b]? = some (.cells C e fr)) (k : IntKind) (xs : List Int) (hC : ∀ j, j < xs.length → C[o + j]? = some (.int k (xs.getD j 0))) (hl : xs.length ≤ 9223372036854775807) : Kd.C (Kd.int k) w (some ⟨b, o, none⟩) xs.length xs := by
  refine Kd.C_of_reads (d := 0) ⟨rfl, hl, fun hn => ⟨_, rfl, fun j hj => ?_⟩⟩
  have e1 : (⟨b, o, none⟩ : Addr).add j = ⟨b, o + j, none⟩ := by unfold Addr.add; split <;> simp_all
  rw [e1]
  unfold World.cell?
  rw [h]
  exact hC j hj
theorem slice_rest (b o : Nat) (k : IntKind) (i : Int) (l : Nat) (hi : i = l) (hl : l < 64) (W : World) :
    (Instr.sliceAt 121 (.pointer (some ⟨b, o, none⟩)) (some (.int k i)) none none).run Tryd.prog W = .ok (.slice (some ⟨b, o + l, none⟩) (64 - l) (64 - l)) W := by
  subst hi
  rw [run_sliceAt_array_l W 121 ⟨b, o, none⟩ (by kernel_rfl) k (l : Int) (by omega) (by rw [show Tryd.prog.arrayLen 121 = 64 by kernel_rfl]; omega)]
  rw [show Tryd.prog.arrayLen 121 = 64 by kernel_rfl, show Tryd.prog.elem 121 = 5 by kernel_rfl]
  rw [show (sizeOf 5).run Tryd.prog W = .ok 1 W by kernel_rfl]
  simp only [Result.andThen, slicedAt, Int.toNat_natCast]
  rw [if_neg (by omega)]
  congr 3
  unfold Addr.add
  simp
theorem four_is (p : List Int) (t : Nat) (hp : p.length = 64) (ht : t < 16) (hb : Bytes p) : PBase.sha_four.f (p.drop (4 * t)) = some (four p t) := by
  have hl : (p.drop (4 * t)).length = 64 - 4 * t := by rw [List.length_drop, hp]
  unfold PBase.sha_four.f
  rw [if_pos (by omega), if_pos (by omega), if_pos (by omega), if_pos (by omega)]
  have hr : ∀ j : Nat, j < 4 → rd (p.drop (4 * t)) j = p.getD (4 * t + j) 0 ∧ 0 ≤ p.getD (4 * t + j) 0 ∧ p.getD (4 * t + j) 0 ≤ 255 := by
    intro j hj
    have h1 : 4 * t + j < p.length := by omega
    have h2 : p.getD (4 * t + j) 0 = p[4 * t + j] := by rw [List.getD_eq_getElem?_getD, List.getElem?_eq_getElem h1]; rfl
    refine ⟨?_, ?_⟩
    · simp [rd, List.getD_eq_getElem?_getD]
    · rw [h2]; exact hb _ (List.getElem_mem h1)
  obtain ⟨e0, a0, b0⟩ := hr 0 (by decide)
  obtain ⟨e1, a1, b1⟩ := hr 1 (by decide)
  obtain ⟨e2, a2, b2⟩ := hr 2 (by decide)
  obtain ⟨e3, a3, b3⟩ := hr 3 (by decide)
  rw [show rd (p.drop (4 * t)) 0 = p.getD (4 * t + 0) 0 from e0, show rd (p.drop (4 * t)) 1 = p.getD (4 * t + 1) 0 from e1, show rd (p.drop (4 * t)) 2 = p.getD (4 * t + 2) 0 from e2, show rd (p.drop (4 * t)) 3 = p.getD (4 * t + 3) 0 from e3]
  unfold four
  rw [Nat.add_zero] at *
  generalize p.getD (4 * t) 0 = x0 at *
  generalize p.getD (4 * t + 1) 0 = x1 at *
  generalize p.getD (4 * t + 2) 0 = x2 at *
  generalize p.getD (4 * t + 3) 0 = x3 at *
  rw [show x0 % 4294967296 * 16777216 % 4294967296 = x0 * 16777216 by omega, show x1 % 4294967296 * 65536 % 4294967296 = x1 * 65536 by omega, show x2 % 4294967296 * 256 % 4294967296 = x2 * 256 by omega, show x3 % 4294967296 = x3 by omega]
  rw [Bt.or_u32 24 (x0 * 16777216) (x1 * 65536) (by omega) (by omega) (by omega) (by omega) (by omega) (by omega)]
  rw [Bt.or_u32 16 (x0 * 16777216 + x1 * 65536) (x2 * 256) (by omega) (by omega) (by omega) (by omega) (by omega) (by omega)]
  rw [Bt.or_u32 8 (x0 * 16777216 + x1 * 65536 + x2 * 256) x3 (by omega) (by omega) (by omega) (by omega) (by omega) (by omega)]
end Sh
theorem sha_ror.quiet (v : Int) (n r : Int) (w : World) (h : PBase.sha_ror.f v n = some r) :
    Calls Tryd.prog 89 #[.int .u32 v, .int .i64 n] w fun e w' => e = .returned (.int .u32 r) ∧ ∃ m, w' = w.drewN m := (PBase.sha_ror.calls v n r w h).mono fun _ _ ⟨he, hd⟩ => ⟨he, hd.out⟩
end Go.Proofs.YtgljicdpcapgnaaDoor
