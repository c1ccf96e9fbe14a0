/- The walk of the law ShaBytes. -/
import Derived.Test.YtnfkinhikgikiaaDoorShaLs
import Derived.Test.YtnfkinhikgikiaaDoorShaKn
import Derived.Test.YtnfkinhikgikiaaDoorShaEq
set_option linter.unusedVariables false
set_option linter.unusedSimpArgs false
namespace Go.Proofs.YtnfkinhikgikiaaDoor
open Go.RowKit Go.Proofs.YtnfkinhikgikiaaDoorW.PrintWords Go.Proofs.YtnfkinhikgikiaaDoorW.PrintLast Go.Proofs.YtnfkinhikgikiaaDoorW.PrintMore
namespace Sh
theorem C_nil (k : IntKind) (w : World) : Kd.C (Kd.int k) w none 0 [] := Kd.C_of_reads (d := 0) ⟨rfl, by simp, fun h => absurd h (by simp)⟩
end Sh
set_option maxHeartbeats 1000000 in
set_option maxRecDepth 100000 in
theorem shaBytes_.calls (A : Option Addr) (c : Nat) (l : List Int) (w : World) (hk : Sh.Ks w) (hr : Kd.C (Kd.int .u8) w A l.length l) (hc : l.length ≤ c) (hby : Sh.Bytes l) (hmax : l.length ≤ 9223372036854775807) :
    Calls Tryd.prog 6 #[.slice A l.length c] w fun e w' => e = .returned (.bool true) ∧ Below w.heap.size w w' := by
  have HR := Aside0.mk hr
  have HBY := Aside0.mk hby
  have HK := Aside0.mk hk
  clear hr hby hk
  obtain ⟨N, HN⟩ : ∃ N, Aside0 (l.length = N) := ⟨_, ⟨rfl⟩⟩
  have hcN : N ≤ c := by rw [← HN.out]; exact hc
  rw [HN.out]
  go_enter Tryd.func6, Tryd.ntmps6
  by_cases hb : 1200 < N
  · go_wp2_with fail
    refine (known_.calls w HK.out).mono ?_
    rintro e w1 ⟨rfl, hb1⟩
    have HB1 := Aside0.mk hb1
    clear hb1
    go_wp2_with fail
    go_ret
    exact ⟨rfl, HB1.out⟩
  · go_wp2_with fail
    refine (known_.calls w HK.out).mono ?_
    rintro e w1 ⟨rfl, hb1⟩
    have HB1 := Aside0.mk hb1
    clear hb1
    go_wp2_with fail
    refine (new_.calls w1).mono ?_
    rintro e w2 ⟨rfl, h2, hb2⟩
    have HB2 : Aside0 (Below w.heap.size w w2) := ⟨below_then HB1.out HB1.out.size hb2⟩
    obtain ⟨b, HBB⟩ : ∃ b, Aside0 (w1.heap.size = b) := ⟨_, ⟨rfl⟩⟩
    have HBN : Aside0 (w.heap.size ≤ b ∧ 0 < b) := ⟨by rw [← HBB.out]; exact ⟨HB1.out.size, by have := HK.out.pos; have := HB1.out.size; omega⟩⟩
    rw [HBB.out] at h2 ⊢
    have H2 := Aside0.mk h2
    clear h2 hb2 HB1 HBB
    go_wp2_with fail
    go_loopw [4] (fun v4 wr => ∃ (i : Nat) (r : List Int), v4 = .int .i64 i ∧ i ≤ N ∧ Aside0 (Sh.Ha wr b (l.take i) r) ∧ Aside0 (Below w.heap.size w wr)) (fun v _ => N - (intOf v).toNat)
    case atStart => exact ⟨0, _, rfl, Nat.zero_le _, H2, HB2⟩
    case round =>
      clear H2 HB2
      obtain ⟨i, r, rfl, hi, HH, HW⟩ := hrel
      by_cases hlt : i < N
      · obtain ⟨A9, HA9⟩ : ∃ A9, Aside0 ((if c = i then A else A.map (·.add i)) = A9) := ⟨_, ⟨rfl⟩⟩
        have q1 : ∀ W, (Instr.slice 22 (.slice A N c) (some (.int .i64 i)) (some (.int .i64 ((i : Int) + 1))) none).run Tryd.prog W = .ok (.slice A9 1 (c - i)) W := fun W => by
          have := Sh.cut2_run W A N c i (i + 1) (by omega) (by omega)
          rw [HA9.out, Nat.add_sub_cancel_left] at this
          exact this
        have q2 : ∀ W, (Instr.sliceAt 22 (.slice A N c) (some (.int .i64 i)) (some (.int .i64 ((i : Int) + 1))) none).run Tryd.prog W = .ok (.slice A9 1 (c - i)) W := fun W => by
          have := Sh.cut2At_run W A N c i (i + 1) (by omega) (by omega)
          rw [HA9.out, Nat.add_sub_cancel_left] at this
          exact this
        have HPL : Aside0 (((l.drop i).take 1).length = 1) := ⟨by rw [List.length_take, List.length_drop, HN.out]; omega⟩
        have HF : Aside0 (Calls Tryd.prog 11 #[.pointer (some ⟨b, 0, none⟩), .slice A9 1 (c - i)] wr fun e w' => e = .returned (.tuple #[]) ∧ (∃ rest', Sh.Ha w' b (l.take (i + 1)) rest') ∧ wr.grownBy w' (some b)) := ⟨by
          have hC : Kd.C (Kd.int .u8) w A N l := by have := HR.out; rwa [HN.out] at this
          have hC0 := Sh.C_cut (c := c) (at_ := i) (m := 1) hC (by omega) (by decide) hcN
          have hC9 := Kd.C_below hC0 HW.out
          rw [HA9.out] at hC9 hC0
          have := write_.calls b (l.take i) r A9 (c - i) ((l.drop i).take 1) wr HH.out (by have := HBN.out.2; omega) (HK.out.below HW.out) (by rw [HPL.out]; exact hC9) (by rw [HPL.out]; omega)
            (fun hl a e => Sh.far_of_C hC0 hl e HBN.out.1) (fun x hx => HBY.out x (List.mem_of_mem_drop (List.mem_of_mem_take hx))) (by rw [HPL.out, List.length_take]; omega)
          rw [HPL.out, ← List.take_add] at this
          exact this⟩
        go_wp2_with fail
        refine HF.out.mono ?_
        rintro e w3 ⟨rfl, ⟨r3, h3⟩, g3⟩
        have H3 := Aside0.mk h3
        have HW3 : Aside0 (Below w.heap.size w w3) := ⟨Sh.below_of_gb HW.out g3 HBN.out.1⟩
        clear h3 g3 HF q1 q2 HPL HH HW
        go_wp2_with fail
        have HLN : Aside0 ((l.take (i + 1)).length = i + 1) := ⟨by rw [List.length_take, HN.out]; omega⟩
        have HF : Aside0 (Calls Tryd.prog 13 #[.pointer (some ⟨b, 0, none⟩)] w3 fun e w' => e = .returned (.int .u64 ((i : Int) + 1)) ∧ w' = w3) := ⟨by
          have := len_.calls b _ _ w3 H3.out
          rw [HLN.out] at this
          exact this⟩
        refine HF.out.mono ?_
        rintro e w4 ⟨rfl, rfl⟩
        clear HF HLN
        go_wp2_with fail
        exact ⟨⟨i + 1, r3, by go_num, by omega, H3, HW3⟩, by simp [intOf]; omega⟩
      · obtain rfl : i = N := by omega
        go_wp2_with fail
        have HL : Aside0 (l.take i = l) := ⟨List.take_of_length_le (by rw [HN.out]; exact Nat.le_refl _)⟩
        rw [HL.out] at HH
        have HF : Aside0 (Calls Tryd.prog 11 #[.pointer (some ⟨b, 0, none⟩), .slice none 0 0] wr fun e w' => e = .returned (.tuple #[]) ∧ (∃ rest', Sh.Ha w' b l rest') ∧ wr.grownBy w' (some b)) := ⟨by
          have := write_.calls b l r none 0 [] wr HH.out (by have := HBN.out.2; omega) (HK.out.below HW.out) (Sh.C_nil _ _) (Nat.le_refl _) (fun h => absurd h (by simp)) (by intro x hx; cases hx) (by rw [HN.out]; simp; omega)
          rw [List.append_nil] at this
          exact this⟩
        refine HF.out.mono ?_
        rintro e w3 ⟨rfl, ⟨r3, h3⟩, g3⟩
        have H3 := Aside0.mk h3
        have HW3 : Aside0 (Below w.heap.size w w3) := ⟨Sh.below_of_gb HW.out g3 HBN.out.1⟩
        clear h3 g3 HF HH HW HL
        go_wp2_with fail
        obtain ⟨D, HDD⟩ : ∃ D, Aside0 (Sh.u8s (Sh.dig l) = D) := ⟨_, ⟨rfl⟩⟩
        have HF : Aside0 (Calls Tryd.prog 12 #[.pointer (some ⟨b, 0, none⟩)] w3 fun e w' => e = .returned (.agg D) ∧ Below w3.heap.size w3 w') := ⟨by
          have := sum_.calls b l r3 w3 H3.out (HK.out.below HW3.out) HBY.out (by rw [HN.out]; omega)
          rw [HDD.out] at this
          exact this⟩
        refine HF.out.mono ?_
        rintro e w4 ⟨rfl, hb4⟩
        have HB4 : Aside0 (Below w.heap.size w w4) := ⟨below_then HW3.out HW3.out.size hb4⟩
        clear hb4 HF HW3 H3
        go_wp2_with fail
        have HF : Aside0 (Calls Tryd.prog 8 #[.slice A i c] w4 fun e w' => e = .returned (.agg D) ∧ Below w4.heap.size w4 w') := ⟨by
          have := lawsum_.calls A c l w4 (HK.out.below HB4.out) (Kd.C_below HR.out HB4.out) (by rw [HN.out]; exact hcN) HBY.out (by rw [HN.out]; omega)
          rw [HN.out, HDD.out] at this
          exact this⟩
        refine HF.out.mono ?_
        rintro e w5 ⟨rfl, hb5⟩
        have HB5 : Aside0 (Below w.heap.size w w5) := ⟨below_then HB4.out HB4.out.size hb5⟩
        have heq : ∀ W, (Op.equalIn 10000 25 (.agg D) (.agg D)).run Tryd.prog W = .ok true W := fun W => by rw [← HDD.out]; exact Sh.eq_self (Sh.dig l) (Sh.dig_length l) W
        clear hb5 HF HB4
        go_wp2_with fail
        go_ret
        exact ⟨rfl, HB5.out⟩
#print axioms shaBytes_.calls
end Go.Proofs.YtnfkinhikgikiaaDoor
