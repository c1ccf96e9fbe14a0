/- The walk of the law ShaSums. -/
import Derived.Test.YtnfkinhikgikiaaDoorShaLs
import Derived.Test.YtnfkinhikgikiaaDoorShaKn
import Derived.Test.YtnfkinhikgikiaaDoorShaEq
set_option linter.unusedVariables false
set_option linter.unusedSimpArgs false
namespace Go.Proofs.YtnfkinhikgikiaaDoor
open Go.RowKit Go.Proofs.YtnfkinhikgikiaaDoorW.PrintWords Go.Proofs.YtnfkinhikgikiaaDoorW.PrintLast Go.Proofs.YtnfkinhikgikiaaDoorW.PrintMore
set_option maxHeartbeats 600000 in
set_option maxRecDepth 100000 in
theorem shaSums_.calls (A : Option Addr) (c : Nat) (l : List Int) (w : World) (hk : Sh.Ks w) (hr : Kd.C (Kd.int .u8) w A l.length l) (hc : l.length ≤ c) (hby : Sh.Bytes l) (hmax : l.length ≤ 9223372036854775807) :
    Calls Tryd.prog 3 #[.slice A l.length c] w fun e w' => e = .returned (.bool true) ∧ Below w.heap.size w w' := by
  have HR := Aside0.mk hr
  have HBY := Aside0.mk hby
  have HK := Aside0.mk hk
  clear hr hby hk
  obtain ⟨N, HN⟩ : ∃ N, Aside0 (l.length = N) := ⟨_, ⟨rfl⟩⟩
  have hcN : N ≤ c := by rw [← HN.out]; exact hc
  rw [HN.out]
  go_enter Tryd.func3, Tryd.ntmps3
  by_cases hb : 1200 < N
  · go_wp2_with fail
    refine (known_.calls w HK.out).mono ?_
    rintro e w1 ⟨rfl, hb1⟩
    have HB1 := Aside0.mk hb1
    clear hb1
    go_wp2_with fail
    go_ret
    exact ⟨rfl, HB1.out⟩
  · go_wp2_with fail
    refine (known_.calls w HK.out).mono ?_
    rintro e w1 ⟨rfl, hb1⟩
    have HB1 := Aside0.mk hb1
    have HC1 : Aside0 (Kd.C (Kd.int .u8) w1 A N l) := ⟨by have := Kd.C_below HR.out hb1; rwa [HN.out] at this⟩
    clear hb1
    go_wp2_with ((with_reducible refine gate_builtin (b := .append) (xs := #[.tmp 12, .tmp 13]) rfl ?_); at_builtin; refine Kd.R_append_rows (Kd.int .u8) (w0 := w) w.heap.size rfl (.tmp 12) (.tmp 13) 22 5 (.int .u8 0) 1 rfl Tryd.underlying22 Sh.info8 rfl (by decide) (by omega) (.slice none 0 0) ([] : List Int) l A N c (fun _ => True) (fun _ => False) rfl rfl (Kd.R_nil _ _ _ _ _) HC1.out (fun _ _ h => h) (fun _ h => h.elim) (fun _ _ => trivial) HB1.out HB1.out.size (by simp only [List.length_nil]; omega) ?_; intro v1 w2 ho hb2 hg _; have HO := Aside0.mk ho; have HB2 := Aside0.mk hb2; clear ho hb2 hg)
    obtain ⟨A1, c1, hv1⟩ := Kd.R_slice HO.out
    obtain ⟨_, hc1, hC1⟩ := Kd.R_reads' (hv1 ▸ HO.out)
    rw [List.nil_append] at hv1 hc1 hC1
    rw [HN.out] at hv1 hc1
    subst hv1
    have HC2 : Aside0 (Kd.C (Kd.int .u8) w2 A1 l.length l) := ⟨hC1⟩
    clear hC1 HO
    obtain ⟨D, HDD⟩ : ∃ D, Aside0 (Sh.u8s (Sh.dig l) = D) := ⟨_, ⟨rfl⟩⟩
    have HF : Aside0 (Calls Tryd.prog 8 #[.slice A1 N c1] w2 fun e w' => e = .returned (.agg D) ∧ Below w2.heap.size w2 w') := ⟨by
      have := lawsum_.calls A1 c1 l w2 (HK.out.below HB2.out) HC2.out (by rw [HN.out]; exact hc1) HBY.out (by rw [HN.out]; omega)
      rw [HN.out, HDD.out] at this
      exact this⟩
    refine HF.out.mono ?_
    rintro e w3 ⟨rfl, hb3⟩
    have HB3 : Aside0 (Below w.heap.size w w3) := ⟨below_then HB2.out HB2.out.size hb3⟩
    have HC3 := Aside0.mk (Kd.C_below HC2.out hb3)
    clear hb3 HF HC2 HC1
    go_wp2_with fail
    have HF : Aside0 (Calls Tryd.prog 9 #[.slice A N c] w3 fun e w' => e = .returned (.agg D) ∧ Below w3.heap.size w3 w') := ⟨by
      have := refsum_.calls A c l w3 (Kd.C_below HR.out HB3.out) (by rw [HN.out]; exact hcN) HBY.out (by rw [HN.out]; omega)
      rw [HN.out, HDD.out] at this
      exact this⟩
    refine HF.out.mono ?_
    rintro e w4 ⟨rfl, hb4⟩
    have HB4 : Aside0 (Below w.heap.size w w4) := ⟨below_then HB3.out HB3.out.size hb4⟩
    have HC4 := Aside0.mk (Kd.C_below HC3.out hb4)
    have heq : ∀ W, (Op.equalIn 10000 25 (.agg D) (.agg D)).run Tryd.prog W = .ok true W := fun W => by rw [← HDD.out]; exact Sh.eq_self (Sh.dig l) (Sh.dig_length l) W
    have hs1 : (convert 22 9 (.slice A1 N c1)).run Tryd.prog w4 = .ok (.string (strOfNums l)) w4 := Kd.C_string Tryd.underlying22 Tryd.underlying5 Tryd.underlying9 (by have := HC4.out; rwa [HN.out] at this)
    have hs2 : (convert 22 9 (.slice A N c)).run Tryd.prog w4 = .ok (.string (strOfNums l)) w4 := Kd.C_string Tryd.underlying22 Tryd.underlying5 Tryd.underlying9 (by have := Kd.C_below HR.out HB4.out; rwa [HN.out] at this)
    clear hb4 HF HC3 HB3 HB2
    generalize strOfNums l = S at hs1 hs2
    go_wp2_with fail
    go_ret
    exact ⟨by simp, HB4.out⟩
#print axioms shaSums_.calls
end Go.Proofs.YtnfkinhikgikiaaDoor
