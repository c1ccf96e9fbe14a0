/- The walk of the law MacTurns. -/
import Derived.Test.YthcilikinfhipaaDoorMacL3
set_option linter.unusedVariables false
set_option linter.unusedSimpArgs false
namespace Go.Proofs.YthcilikinfhipaaDoor
open Go.RowKit Go.Proofs.YthcilikinfhipaaDoorW.PrintWords Go.Proofs.YthcilikinfhipaaDoorW.PrintLast Go.Proofs.YthcilikinfhipaaDoorW.PrintMore
namespace Sh
theorem set_same (a : List Int) (i : Nat) (c : Int) (hi : i < a.length) : decide (a = a.set i c) = (a.getD i 0 == c) := by
  rw [List.getD_eq_getElem?_getD, List.getElem?_eq_getElem hi]
  by_cases h : a[i] = c
  · subst h
    simp
  · have : ¬ a = a.set i c := fun e => h (by
      have := congrArg (fun l => l[i]?) e
      simp [hi] at this
      exact this)
    simp [h, this]
theorem set_bytes {a : List Int} (h : Bytes a) (i : Nat) {c : Int} (hc : 0 ≤ c ∧ c ≤ 255) : Bytes (a.set i c) := fun x hx => by
  rcases List.mem_or_eq_of_mem_set hx with h1 | h1
  · exact h x h1
  · subst h1; exact hc
end Sh
set_option maxHeartbeats 1000000 in
set_option maxRecDepth 100000 in
theorem macTurns_.calls (A0 : Option Addr) (c0 : Nat) (a : List Int) (A1 : Option Addr) (c1 : Nat) (b : List Int) (k c : Int) (w : World) (hk : Sh.Ks w)
    (hr0 : Kd.C (Kd.int .u8) w A0 a.length a) (hc0 : a.length ≤ c0) (hby0 : Sh.Bytes a) (hm0 : a.length ≤ 9223372036854775807)
    (hr1 : Kd.C (Kd.int .u8) w A1 b.length b) (hc1 : b.length ≤ c1) (hby1 : Sh.Bytes b) (hm1 : b.length ≤ 9223372036854775807) (hkw : (Lit.int .i64 k).wf = true) (hcw : (Lit.int .u8 c).wf = true) :
    Calls Tryd.prog 7 #[.slice A0 a.length c0, .slice A1 b.length c1, .int .i64 k, .int .u8 c] w fun e w' => e = .returned (.bool true) ∧ Below w.heap.size w w' := by
  have HR0 := Aside0.mk hr0
  have HR1 := Aside0.mk hr1
  have HY0 := Aside0.mk hby0
  have HY1 := Aside0.mk hby1
  have HK := Aside0.mk hk
  have HC : Aside0 (0 ≤ c ∧ c ≤ 255) := ⟨by
    simp only [Lit.wf, IntKind.min, IntKind.max, IntKind.signed, IntKind.bits] at hcw
    simp at hcw
    exact hcw⟩
  have HKM : -9223372036854775808 ≤ k ∧ k ≤ 9223372036854775807 := by
    simp only [Lit.wf, IntKind.min, IntKind.max, IntKind.signed, IntKind.bits] at hkw
    simp at hkw
    omega
  clear hr0 hr1 hby0 hby1 hk hcw hkw
  obtain ⟨N0, HN0⟩ : ∃ N, Aside0 (a.length = N) := ⟨_, ⟨rfl⟩⟩
  obtain ⟨N1, HN1⟩ : ∃ N, Aside0 (b.length = N) := ⟨_, ⟨rfl⟩⟩
  rw [HN0.out] at hc0 hm0 ⊢
  rw [HN1.out] at hc1 hm1 ⊢
  go_enter Tryd.func7, Tryd.ntmps7
  by_cases g0 : 800 < N0
  · go_wp2_with fail
    refine (known_.calls w HK.out).mono ?_
    rintro e w1 ⟨rfl, hb1⟩
    have HB1 := Aside0.mk hb1
    clear hb1
    go_wp2_with fail
    go_ret
    exact ⟨rfl, HB1.out⟩
  · by_cases g1 : 800 < N1
    · go_wp2_with fail
      refine (known_.calls w HK.out).mono ?_
      rintro e w1 ⟨rfl, hb1⟩
      have HB1 := Aside0.mk hb1
      clear hb1
      go_wp2_with fail
      go_ret
      exact ⟨rfl, HB1.out⟩
    · go_wp2_with fail
      refine (known_.calls w HK.out).mono ?_
      rintro e w1 ⟨rfl, hb1⟩
      have HB1 := Aside0.mk hb1
      clear hb1
      have HC0 : Aside0 (∀ W, Below w.heap.size w W → Kd.C (Kd.int .u8) W A0 N0 a) := ⟨fun W hW => by have := Kd.C_below HR0.out hW; rwa [HN0.out] at this⟩
      rcases (show (¬ 0 < N0) ∨ 0 < N0 by omega) with hz | hz
      ·
        go_wp2_with (first
          | ((with_reducible refine gate_builtin (b := .append) (xs := #[.tmp 26, .tmp 27]) rfl ?_); at_builtin; refine Kd.R_append_rows (Kd.int .u8) (w0 := w) w.heap.size rfl (.tmp 26) (.tmp 27) 22 5 (.int .u8 0) 1 rfl Tryd.underlying22 Sh.info8 rfl (by decide) (by omega) (.slice none 0 0) ([] : List Int) a A0 N0 c0 (fun _ => True) (fun _ => False) rfl rfl (Kd.R_nil _ _ _ _ _) (HC0.out _ HB1.out) (fun _ _ h => h) (fun _ h => h.elim) (fun k hk => trivial) HB1.out HB1.out.size (by simp only [List.length_nil]; omega) ?_; intro v2 w2 ho hb4 hg _; have H2 : Aside0 (Sh.Pm w v2 a w2) := ⟨⟨ho, hb4⟩⟩; clear ho hb4 hg)
          | ((with_reducible refine gate_builtin (b := .append) (xs := #[.tmp 29, .tmp 31]) rfl ?_); at_builtin; refine Kd.R_append (Kd.int .u8) (w0 := w) w.heap.size rfl (.tmp 29) (.tmp 31) 22 5 (.int .u8 0) 1 rfl Tryd.underlying22 Sh.info8 rfl (by decide) (by omega) v2 a c [.int .u8 c] (fun _ => True) (fun _ => False) rfl rfl rfl (fun _ h => h.elim) (fun k hk => trivial) H2.out.r H2.out.g H2.out.g.size (by rw [HN0.out]; omega) ?_; intro v3 w3 ho hb4 hg _; have H3 : Aside0 (Sh.Pm w v3 (a ++ [c]) w3) := ⟨⟨ho, hb4⟩⟩; clear ho hb4 hg)
          | ((with_reducible refine gate_builtin (b := .append) (xs := #[.tmp 33, .tmp 34]) rfl ?_); at_builtin; refine Kd.R_append_rows (Kd.int .u8) (w0 := w3) w3.heap.size rfl (.tmp 33) (.tmp 34) 22 5 (.int .u8 0) 1 rfl Tryd.underlying22 Sh.info8 rfl (by decide) (by omega) (.slice none 0 0) ([] : List Int) a A0 N0 c0 (fun _ => True) (fun _ => False) rfl rfl (Kd.R_nil _ _ _ _ _) (HC0.out _ H3.out.g) (fun _ _ h => h) (fun _ h => h.elim) (fun k hk => trivial) (Below.refl _ _) (Nat.le_refl _) (by simp only [List.length_nil]; omega) ?_; intro v4 w4 ho hb4 hg _; have H4 : Aside0 (Sh.Pm w3 v4 a w4) := ⟨⟨ho, hb4⟩⟩; clear ho hb4 hg; obtain ⟨Ao, co, hvo, hco, hCo⟩ := Kd.R_reads H4.out.r; subst hvo; rw [HN0.out] at hco ⊢; have HCo := Aside0.mk hCo; clear hCo))
        obtain ⟨Am, cm, hvm, hcm, hCm⟩ := Kd.R_reads H3.out.r
        subst hvm
        have HLM : Aside0 ((a ++ [c]).length = N0 + 1) := ⟨by rw [List.length_append, HN0.out]; rfl⟩
        rw [HLM.out] at hcm ⊢
        have HCm := Aside0.mk hCm
        clear hCm
        have HBM : Aside0 (Sh.Bytes (a ++ [c])) := ⟨fun x hx => by
          rcases List.mem_append.1 hx with h | h
          · exact HY0.out x h
          · rw [List.mem_singleton.1 h]; exact HC.out⟩
        obtain ⟨d, HD⟩ : ∃ d : Bool, Aside0 (decide (a = b) = d) := ⟨_, ⟨rfl⟩⟩
        have HSM : Aside0 (∀ W, Below w.heap.size w W → Calls Tryd.prog 12 #[.slice A0 N0 c0, .slice A1 N1 c1] W fun e w' => e = .returned (.bool d) ∧ ∃ m, w' = W.drewN m) := ⟨fun W hW => by
          have := same_.calls A0 c0 a A1 c1 b W (Kd.C_below HR0.out hW) (by rw [HN0.out]; exact hc0) (Kd.C_below HR1.out hW) (by rw [HN1.out]; exact hc1) (by rw [HN0.out]; omega) HY0.out HY1.out
          rw [HN0.out, HN1.out, HD.out] at this
          exact this⟩
        have HSN : Aside0 (∀ W, Below w.heap.size w W → Calls Tryd.prog 12 #[.slice A1 N1 c1, .slice A0 N0 c0] W fun e w' => e = .returned (.bool d) ∧ ∃ m, w' = W.drewN m) := ⟨fun W hW => by
          have := same_.calls A1 c1 b A0 c0 a W (Kd.C_below HR1.out hW) (by rw [HN1.out]; exact hc1) (Kd.C_below HR0.out hW) (by rw [HN0.out]; exact hc0) (by rw [HN1.out]; omega) HY1.out HY0.out
          rw [HN0.out, HN1.out, show decide (b = a) = d by rw [← HD.out, decide_eq_decide]; exact eq_comm] at this
          exact this⟩
        have HSA : Aside0 (∀ W, Below w.heap.size w W → Below w3.heap.size w3 W → Calls Tryd.prog 12 #[.slice A0 N0 c0, .slice Am (N0 + 1) cm] W fun e w' => e = .returned (.bool false) ∧ ∃ m, w' = W.drewN m) := ⟨fun W hW hW3 => by
          have := same_.calls A0 c0 a Am cm (a ++ [c]) W (Kd.C_below HR0.out hW) (by rw [HN0.out]; exact hc0) (Kd.C_below HCm.out hW3) (by rw [HLM.out]; exact hcm) (by rw [HN0.out]; omega) HY0.out HBM.out
          rw [HN0.out, HLM.out, show decide (a = a ++ [c]) = false by simp] at this
          exact this⟩
        have HG3 : Aside0 (Below w.heap.size w w3) := ⟨H3.out.g⟩
        have HSO : Aside0 (∀ W, Below w.heap.size w W → Below w4.heap.size w4 W → Calls Tryd.prog 12 #[.slice A0 N0 c0, .slice Ao N0 co] W fun e w' => e = .returned (.bool true) ∧ ∃ m, w' = W.drewN m) := ⟨fun W hW hW4 => by
          have := same_.calls A0 c0 a Ao co a W (Kd.C_below HR0.out hW) (by rw [HN0.out]; exact hc0) (Kd.C_below HCo.out hW4) (by rw [HN0.out]; exact hco) (by rw [HN0.out]; omega) HY0.out HY0.out
          rw [HN0.out, show decide (a = a) = true by simp] at this
          exact this⟩
        obtain ⟨W5, rfl⟩ : ∃ q : World, q = w4 := ⟨_, rfl⟩
        have HB5 : Aside0 (Below w.heap.size w W5 ∧ Below w3.heap.size w3 W5) := ⟨below_then HG3.out HG3.out.size H4.out.g, H4.out.g⟩
        clear H3 H4 H2 HB1
        go_wp2_with fail
        refine (HSM.out _ HB5.out.1).mono ?_
        rintro e w' ⟨rfl, m1, rfl⟩
        go_wp2_with fail
        refine (HSN.out _ (pw_below_drewN HB5.out.1 _)).mono ?_
        rintro e w' ⟨rfl, m2, rfl⟩
        go_wp2_with fail
        refine (HSA.out _ (pw_below_drewN HB5.out.1 _) (pw_below_drewN HB5.out.2 _)).mono ?_
        rintro e w' ⟨rfl, m3, rfl⟩
        go_wp2_with fail
        refine (HSO.out _ (pw_below_drewN HB5.out.1 _) (pw_below_drewN (Below.refl _ _) _)).mono ?_
        rintro e w' ⟨rfl, m4, rfl⟩
        go_wp2_with fail
        go_ret
        exact ⟨by simp, pw_below_drewN HB5.out.1 _⟩
      · rcases (show 0 ≤ k ∨ ¬ 0 ≤ k by omega) with hk0 | hk0
        · have hat : 0 ≤ k % (N0 : Int) ∧ k % (N0 : Int) < N0 := ⟨Int.emod_nonneg _ (by omega), Int.emod_lt_of_pos _ (by omega)⟩
          obtain ⟨y, HY⟩ : ∃ y, Aside0 (y = rdOf (0 : Int) a (k % (N0 : Int))) := ⟨_, ⟨rfl⟩⟩
          go_wp2_with (first
            | ((with_reducible refine gate_builtin (b := .append) (xs := #[.tmp 26, .tmp 27]) rfl ?_); at_builtin; refine Kd.R_append_rows (Kd.int .u8) (w0 := w) w.heap.size rfl (.tmp 26) (.tmp 27) 22 5 (.int .u8 0) 1 rfl Tryd.underlying22 Sh.info8 rfl (by decide) (by omega) (.slice none 0 0) ([] : List Int) a A0 N0 c0 (fun _ => True) (fun _ => False) rfl rfl (Kd.R_nil _ _ _ _ _) (HC0.out _ HB1.out) (fun _ _ h => h) (fun _ h => h.elim) (fun k hk => trivial) HB1.out HB1.out.size (by simp only [List.length_nil]; omega) ?_; intro v2 w2 ho hb4 hg _; have H2 : Aside0 (Sh.Pm w v2 a w2) := ⟨⟨ho, hb4⟩⟩; clear ho hb4 hg)
            | ((with_reducible refine gate_builtin (b := .append) (xs := #[.tmp 29, .tmp 31]) rfl ?_); at_builtin; refine Kd.R_append (Kd.int .u8) (w0 := w) w.heap.size rfl (.tmp 29) (.tmp 31) 22 5 (.int .u8 0) 1 rfl Tryd.underlying22 Sh.info8 rfl (by decide) (by omega) v2 a c [.int .u8 c] (fun _ => True) (fun _ => False) rfl rfl rfl (fun _ h => h.elim) (fun k hk => trivial) H2.out.r H2.out.g H2.out.g.size (by rw [HN0.out]; omega) ?_; intro v3 w3 ho hb4 hg _; have H3 : Aside0 (Sh.Pm w v3 (a ++ [c]) w3) := ⟨⟨ho, hb4⟩⟩; clear ho hb4 hg)
            | ((with_reducible refine gate_builtin (b := .append) (xs := #[.tmp 33, .tmp 34]) rfl ?_); at_builtin; refine Kd.R_append_rows (Kd.int .u8) (w0 := w3) w3.heap.size rfl (.tmp 33) (.tmp 34) 22 5 (.int .u8 0) 1 rfl Tryd.underlying22 Sh.info8 rfl (by decide) (by omega) (.slice none 0 0) ([] : List Int) a A0 N0 c0 (fun _ => True) (fun _ => False) rfl rfl (Kd.R_nil _ _ _ _ _) (HC0.out _ H3.out.g) (fun _ _ h => h) (fun _ h => h.elim) (fun k hk => trivial) (Below.refl _ _) (Nat.le_refl _) (by simp only [List.length_nil]; omega) ?_; intro v4 w4 ho hb4 hg _; have H4 : Aside0 (Sh.Pm w3 v4 a w4) := ⟨⟨ho, hb4⟩⟩; clear ho hb4 hg; obtain ⟨g, co, hvg, hg1, _, _, _⟩ := Kd.R_form H4.out.r (by rw [HN0.out]; omega); subst hvg; rw [HN0.out] at H4 ⊢; have HCF : Aside0 (w4.cell? ⟨g, (k % (N0 : Int)).toNat, none⟩ = some (.int .u8 y) ∧ w4.frozen? ⟨g, (k % (N0 : Int)).toNat, none⟩ = false) := ⟨by have := Kd.R_celln (0 : Int) H4.out.r (k % (N0 : Int)) hat.1 hat.2; rw [show rdOf (0 : Int) a (k % (N0 : Int)) = y from HY.out.symm] at this; exact this⟩; have hcell := HCF.out.1; have hfro := HCF.out.2))
          obtain ⟨Am, cm, hvm, hcm, hCm⟩ := Kd.R_reads H3.out.r
          subst hvm
          have HLM : Aside0 ((a ++ [c]).length = N0 + 1) := ⟨by rw [List.length_append, HN0.out]; rfl⟩
          rw [HLM.out] at hcm ⊢
          have HCm := Aside0.mk hCm
          clear hCm
          have HBM : Aside0 (Sh.Bytes (a ++ [c])) := ⟨fun x hx => by
            rcases List.mem_append.1 hx with h | h
            · exact HY0.out x h
            · rw [List.mem_singleton.1 h]; exact HC.out⟩
          obtain ⟨d, HD⟩ : ∃ d : Bool, Aside0 (decide (a = b) = d) := ⟨_, ⟨rfl⟩⟩
          have HSM : Aside0 (∀ W, Below w.heap.size w W → Calls Tryd.prog 12 #[.slice A0 N0 c0, .slice A1 N1 c1] W fun e w' => e = .returned (.bool d) ∧ ∃ m, w' = W.drewN m) := ⟨fun W hW => by
            have := same_.calls A0 c0 a A1 c1 b W (Kd.C_below HR0.out hW) (by rw [HN0.out]; exact hc0) (Kd.C_below HR1.out hW) (by rw [HN1.out]; exact hc1) (by rw [HN0.out]; omega) HY0.out HY1.out
            rw [HN0.out, HN1.out, HD.out] at this
            exact this⟩
          have HSN : Aside0 (∀ W, Below w.heap.size w W → Calls Tryd.prog 12 #[.slice A1 N1 c1, .slice A0 N0 c0] W fun e w' => e = .returned (.bool d) ∧ ∃ m, w' = W.drewN m) := ⟨fun W hW => by
            have := same_.calls A1 c1 b A0 c0 a W (Kd.C_below HR1.out hW) (by rw [HN1.out]; exact hc1) (Kd.C_below HR0.out hW) (by rw [HN0.out]; exact hc0) (by rw [HN1.out]; omega) HY1.out HY0.out
            rw [HN0.out, HN1.out, show decide (b = a) = d by rw [← HD.out, decide_eq_decide]; exact eq_comm] at this
            exact this⟩
          have HSA : Aside0 (∀ W, Below w.heap.size w W → Below w3.heap.size w3 W → Calls Tryd.prog 12 #[.slice A0 N0 c0, .slice Am (N0 + 1) cm] W fun e w' => e = .returned (.bool false) ∧ ∃ m, w' = W.drewN m) := ⟨fun W hW hW3 => by
            have := same_.calls A0 c0 a Am cm (a ++ [c]) W (Kd.C_below HR0.out hW) (by rw [HN0.out]; exact hc0) (Kd.C_below HCm.out hW3) (by rw [HLM.out]; exact hcm) (by rw [HN0.out]; omega) HY0.out HBM.out
            rw [HN0.out, HLM.out, show decide (a = a ++ [c]) = false by simp] at this
            exact this⟩
          have HG3 : Aside0 (Below w.heap.size w w3) := ⟨H3.out.g⟩
          have HPUT : Aside0 (Kd.R (Kd.int .u8) 5 (w4.setCell ⟨g, (k % (N0 : Int)).toNat, none⟩ (.int .u8 c)) w3.heap.size (fun _ => True) (.slice (some ⟨g, 0, none⟩) N0 co) (a.set ((k % (N0 : Int)).toNat) c) ∧ w4.grownBy (w4.setCell ⟨g, (k % (N0 : Int)).toNat, none⟩ (.int .u8 c)) (some g)) := ⟨Kd.R_putg H4.out.r (k % (N0 : Int)) c⟩
          generalize w4.setCell ⟨g, (k % (N0 : Int)).toNat, none⟩ (Value.int .u8 c) = W5 at HPUT ⊢
          have HB53 : Aside0 (Below w3.heap.size w3 W5) := ⟨Sh.below_of_gb H4.out.g HPUT.out.2 hg1⟩
          have HB5 : Aside0 (Below w.heap.size w W5 ∧ Below w3.heap.size w3 W5) := ⟨below_then HG3.out HG3.out.size HB53.out, HB53.out⟩
          have HSO : Aside0 (∀ W, Below w.heap.size w W → Below W5.heap.size W5 W → Calls Tryd.prog 12 #[.slice A0 N0 c0, .slice (some ⟨g, 0, none⟩) N0 co] W fun e w' => e = .returned (.bool (y == c)) ∧ ∃ m, w' = W.drewN m) := ⟨fun W hW hW5 => by
            obtain ⟨e5, hc5, hC5⟩ := Kd.R_reads' HPUT.out.1
            have hl : (a.set ((k % (N0 : Int)).toNat) c).length = N0 := by rw [List.length_set, HN0.out]
            have := same_.calls A0 c0 a (some ⟨g, 0, none⟩) co (a.set ((k % (N0 : Int)).toNat) c) W (Kd.C_below HR0.out hW) (by rw [HN0.out]; exact hc0) (Kd.C_below hC5 hW5) (by rw [hl]; exact hc5) (by rw [HN0.out]; omega) HY0.out (Sh.set_bytes HY0.out _ HC.out)
            rw [HN0.out, hl, Sh.set_same a ((k % (N0 : Int)).toNat) c (by rw [HN0.out]; omega), show a.getD ((k % (N0 : Int)).toNat) 0 = y from HY.out.symm] at this
            exact this⟩
          clear HPUT HCF hcell hfro H4 HB53
          go_wp2_with fail
          refine (HSM.out _ HB5.out.1).mono ?_
          rintro e w' ⟨rfl, m1, rfl⟩
          go_wp2_with fail
          refine (HSN.out _ (pw_below_drewN HB5.out.1 _)).mono ?_
          rintro e w' ⟨rfl, m2, rfl⟩
          go_wp2_with fail
          refine (HSA.out _ (pw_below_drewN HB5.out.1 _) (pw_below_drewN HB5.out.2 _)).mono ?_
          rintro e w' ⟨rfl, m3, rfl⟩
          go_wp2_with fail
          refine (HSO.out _ (pw_below_drewN HB5.out.1 _) (pw_below_drewN (Below.refl _ _) _)).mono ?_
          rintro e w' ⟨rfl, m4, rfl⟩
          go_wp2_with fail
          go_ret
          exact ⟨by simp, pw_below_drewN HB5.out.1 _⟩
        · have hat : (0 : Int) < N0 := by omega
          obtain ⟨y, HY⟩ : ∃ y, Aside0 (y = rdOf (0 : Int) a 0) := ⟨_, ⟨rfl⟩⟩
          go_wp2_with (first
            | ((with_reducible refine gate_builtin (b := .append) (xs := #[.tmp 26, .tmp 27]) rfl ?_); at_builtin; refine Kd.R_append_rows (Kd.int .u8) (w0 := w) w.heap.size rfl (.tmp 26) (.tmp 27) 22 5 (.int .u8 0) 1 rfl Tryd.underlying22 Sh.info8 rfl (by decide) (by omega) (.slice none 0 0) ([] : List Int) a A0 N0 c0 (fun _ => True) (fun _ => False) rfl rfl (Kd.R_nil _ _ _ _ _) (HC0.out _ HB1.out) (fun _ _ h => h) (fun _ h => h.elim) (fun k hk => trivial) HB1.out HB1.out.size (by simp only [List.length_nil]; omega) ?_; intro v2 w2 ho hb4 hg _; have H2 : Aside0 (Sh.Pm w v2 a w2) := ⟨⟨ho, hb4⟩⟩; clear ho hb4 hg)
            | ((with_reducible refine gate_builtin (b := .append) (xs := #[.tmp 29, .tmp 31]) rfl ?_); at_builtin; refine Kd.R_append (Kd.int .u8) (w0 := w) w.heap.size rfl (.tmp 29) (.tmp 31) 22 5 (.int .u8 0) 1 rfl Tryd.underlying22 Sh.info8 rfl (by decide) (by omega) v2 a c [.int .u8 c] (fun _ => True) (fun _ => False) rfl rfl rfl (fun _ h => h.elim) (fun k hk => trivial) H2.out.r H2.out.g H2.out.g.size (by rw [HN0.out]; omega) ?_; intro v3 w3 ho hb4 hg _; have H3 : Aside0 (Sh.Pm w v3 (a ++ [c]) w3) := ⟨⟨ho, hb4⟩⟩; clear ho hb4 hg)
            | ((with_reducible refine gate_builtin (b := .append) (xs := #[.tmp 33, .tmp 34]) rfl ?_); at_builtin; refine Kd.R_append_rows (Kd.int .u8) (w0 := w3) w3.heap.size rfl (.tmp 33) (.tmp 34) 22 5 (.int .u8 0) 1 rfl Tryd.underlying22 Sh.info8 rfl (by decide) (by omega) (.slice none 0 0) ([] : List Int) a A0 N0 c0 (fun _ => True) (fun _ => False) rfl rfl (Kd.R_nil _ _ _ _ _) (HC0.out _ H3.out.g) (fun _ _ h => h) (fun _ h => h.elim) (fun k hk => trivial) (Below.refl _ _) (Nat.le_refl _) (by simp only [List.length_nil]; omega) ?_; intro v4 w4 ho hb4 hg _; have H4 : Aside0 (Sh.Pm w3 v4 a w4) := ⟨⟨ho, hb4⟩⟩; clear ho hb4 hg; obtain ⟨g, co, hvg, hg1, _, _, _⟩ := Kd.R_form H4.out.r (by rw [HN0.out]; omega); subst hvg; rw [HN0.out] at H4 ⊢; have HCF : Aside0 (w4.cell? ⟨g, 0, none⟩ = some (.int .u8 y) ∧ w4.frozen? ⟨g, 0, none⟩ = false) := ⟨by have := Kd.R_celln (0 : Int) H4.out.r 0 (Int.le_refl 0) hat; rw [show rdOf (0 : Int) a 0 = y from HY.out.symm] at this; exact this⟩; have hcell := HCF.out.1; have hfro := HCF.out.2))
          obtain ⟨Am, cm, hvm, hcm, hCm⟩ := Kd.R_reads H3.out.r
          subst hvm
          have HLM : Aside0 ((a ++ [c]).length = N0 + 1) := ⟨by rw [List.length_append, HN0.out]; rfl⟩
          rw [HLM.out] at hcm ⊢
          have HCm := Aside0.mk hCm
          clear hCm
          have HBM : Aside0 (Sh.Bytes (a ++ [c])) := ⟨fun x hx => by
            rcases List.mem_append.1 hx with h | h
            · exact HY0.out x h
            · rw [List.mem_singleton.1 h]; exact HC.out⟩
          obtain ⟨d, HD⟩ : ∃ d : Bool, Aside0 (decide (a = b) = d) := ⟨_, ⟨rfl⟩⟩
          have HSM : Aside0 (∀ W, Below w.heap.size w W → Calls Tryd.prog 12 #[.slice A0 N0 c0, .slice A1 N1 c1] W fun e w' => e = .returned (.bool d) ∧ ∃ m, w' = W.drewN m) := ⟨fun W hW => by
            have := same_.calls A0 c0 a A1 c1 b W (Kd.C_below HR0.out hW) (by rw [HN0.out]; exact hc0) (Kd.C_below HR1.out hW) (by rw [HN1.out]; exact hc1) (by rw [HN0.out]; omega) HY0.out HY1.out
            rw [HN0.out, HN1.out, HD.out] at this
            exact this⟩
          have HSN : Aside0 (∀ W, Below w.heap.size w W → Calls Tryd.prog 12 #[.slice A1 N1 c1, .slice A0 N0 c0] W fun e w' => e = .returned (.bool d) ∧ ∃ m, w' = W.drewN m) := ⟨fun W hW => by
            have := same_.calls A1 c1 b A0 c0 a W (Kd.C_below HR1.out hW) (by rw [HN1.out]; exact hc1) (Kd.C_below HR0.out hW) (by rw [HN0.out]; exact hc0) (by rw [HN1.out]; omega) HY1.out HY0.out
            rw [HN0.out, HN1.out, show decide (b = a) = d by rw [← HD.out, decide_eq_decide]; exact eq_comm] at this
            exact this⟩
          have HSA : Aside0 (∀ W, Below w.heap.size w W → Below w3.heap.size w3 W → Calls Tryd.prog 12 #[.slice A0 N0 c0, .slice Am (N0 + 1) cm] W fun e w' => e = .returned (.bool false) ∧ ∃ m, w' = W.drewN m) := ⟨fun W hW hW3 => by
            have := same_.calls A0 c0 a Am cm (a ++ [c]) W (Kd.C_below HR0.out hW) (by rw [HN0.out]; exact hc0) (Kd.C_below HCm.out hW3) (by rw [HLM.out]; exact hcm) (by rw [HN0.out]; omega) HY0.out HBM.out
            rw [HN0.out, HLM.out, show decide (a = a ++ [c]) = false by simp] at this
            exact this⟩
          have HG3 : Aside0 (Below w.heap.size w w3) := ⟨H3.out.g⟩
          have HPUT : Aside0 (Kd.R (Kd.int .u8) 5 (w4.setCell ⟨g, 0, none⟩ (.int .u8 c)) w3.heap.size (fun _ => True) (.slice (some ⟨g, 0, none⟩) N0 co) (a.set (0) c) ∧ w4.grownBy (w4.setCell ⟨g, 0, none⟩ (.int .u8 c)) (some g)) := ⟨Kd.R_putg H4.out.r (0) c⟩
          generalize w4.setCell ⟨g, 0, none⟩ (Value.int .u8 c) = W5 at HPUT ⊢
          have HB53 : Aside0 (Below w3.heap.size w3 W5) := ⟨Sh.below_of_gb H4.out.g HPUT.out.2 hg1⟩
          have HB5 : Aside0 (Below w.heap.size w W5 ∧ Below w3.heap.size w3 W5) := ⟨below_then HG3.out HG3.out.size HB53.out, HB53.out⟩
          have HSO : Aside0 (∀ W, Below w.heap.size w W → Below W5.heap.size W5 W → Calls Tryd.prog 12 #[.slice A0 N0 c0, .slice (some ⟨g, 0, none⟩) N0 co] W fun e w' => e = .returned (.bool (y == c)) ∧ ∃ m, w' = W.drewN m) := ⟨fun W hW hW5 => by
            obtain ⟨e5, hc5, hC5⟩ := Kd.R_reads' HPUT.out.1
            have hl : (a.set (0) c).length = N0 := by rw [List.length_set, HN0.out]
            have := same_.calls A0 c0 a (some ⟨g, 0, none⟩) co (a.set (0) c) W (Kd.C_below HR0.out hW) (by rw [HN0.out]; exact hc0) (Kd.C_below hC5 hW5) (by rw [hl]; exact hc5) (by rw [HN0.out]; omega) HY0.out (Sh.set_bytes HY0.out _ HC.out)
            rw [HN0.out, hl, Sh.set_same a (0) c (by rw [HN0.out]; omega), show a.getD (0) 0 = y from HY.out.symm] at this
            exact this⟩
          clear HPUT HCF hcell hfro H4 HB53
          go_wp2_with fail
          refine (HSM.out _ HB5.out.1).mono ?_
          rintro e w' ⟨rfl, m1, rfl⟩
          go_wp2_with fail
          refine (HSN.out _ (pw_below_drewN HB5.out.1 _)).mono ?_
          rintro e w' ⟨rfl, m2, rfl⟩
          go_wp2_with fail
          refine (HSA.out _ (pw_below_drewN HB5.out.1 _) (pw_below_drewN HB5.out.2 _)).mono ?_
          rintro e w' ⟨rfl, m3, rfl⟩
          go_wp2_with fail
          refine (HSO.out _ (pw_below_drewN HB5.out.1 _) (pw_below_drewN (Below.refl _ _) _)).mono ?_
          rintro e w' ⟨rfl, m4, rfl⟩
          go_wp2_with fail
          go_ret
          exact ⟨by simp, pw_below_drewN HB5.out.1 _⟩
#print axioms macTurns_.calls
end Go.Proofs.YthcilikinfhipaaDoor
