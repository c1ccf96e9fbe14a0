/- The walk of the law MacPieces. -/
import Derived.Test.YthcilikinfhipaaDoorMacL1
set_option linter.unusedVariables false
set_option linter.unusedSimpArgs false
namespace Go.Proofs.YthcilikinfhipaaDoor
open Go.RowKit Go.Proofs.YthcilikinfhipaaDoorW.PrintWords Go.Proofs.YthcilikinfhipaaDoorW.PrintLast Go.Proofs.YthcilikinfhipaaDoorW.PrintMore
namespace Sh
/-- what stands in memory while bytes are gathered -/
structure Pm (w : World) (v : Value) (acc : List Int) (wr : World) : Prop where
  r : Kd.R (Kd.int .u8) 5 wr w.heap.size (fun _ => True) v acc
  g : Below w.heap.size w wr
theorem cat_bytes' (ps : Nat → List Int) (n : Nat) (h : ∀ i, i < n → Bytes (ps i)) : ∀ i, i ≤ n → Bytes (cat ps i)
  | 0, _ => by intro x hx; cases hx
  | i + 1, hi => by
    intro x hx
    rcases List.mem_append.1 hx with hx | hx
    · exact cat_bytes' ps n h i (by omega) x hx
    · exact h i (by omega) x hx
theorem cat_long (ps : Nat → List Int) (n : Nat) : ∀ i, i ≤ n → (∀ j, j < i → (ps j).length ≤ 200) → (cat ps i).length ≤ 200 * i
  | 0, _, _ => by simp [cat]
  | i + 1, hi, h => by
    rw [cat, List.length_append]
    have := cat_long ps n i (by omega) (fun j hj => h j (by omega))
    have := h i (by omega)
    omega
end Sh
set_option maxHeartbeats 1000000 in
set_option maxRecDepth 100000 in
theorem macPieces_.calls (A0 : Option Addr) (c0 : Nat) (key : List Int) (B : Option Addr) (n c : Nat) (ps : Nat → List Int) (As : Nat → Option Addr) (Cs : Nat → Nat) (w : World) (hk : Sh.Ks w)
    (hr0 : Kd.C (Kd.int .u8) w A0 key.length key) (hc0 : key.length ≤ c0) (hby0 : Sh.Bytes key) (hm0 : key.length ≤ 9223372036854775807) (hnc : n ≤ c) (hmax : n ≤ 9223372036854775807)
    (hr : ∀ i, i < n → ∃ ad, B = some ad ∧ w.cell? (ad.add i) = some (.slice (As i) (ps i).length (Cs i)) ∧ (ps i).length ≤ Cs i ∧ (ps i).length ≤ 9223372036854775807 ∧ Sh.Bytes (ps i) ∧ Kd.C (Kd.int .u8) w (As i) (ps i).length (ps i)) :
    Calls Tryd.prog 4 #[.slice A0 key.length c0, .slice B n c] w fun e w' => e = .returned (.bool true) ∧ Below w.heap.size w w' := by
  have HR := Aside0.mk hr
  have HK := Aside0.mk hk
  have HR0 := Aside0.mk hr0
  have HY0 := Aside0.mk hby0
  clear hr hk hr0 hby0
  obtain ⟨N0, HN0⟩ : ∃ N, Aside0 (key.length = N) := ⟨_, ⟨rfl⟩⟩
  rw [HN0.out] at hc0 hm0 ⊢
  go_enter Tryd.func4, Tryd.ntmps4
  by_cases g0 : 800 < N0
  · go_wp2_with fail
    refine (known_.calls w HK.out).mono ?_
    rintro e w1 ⟨rfl, hb1⟩
    have HB1 := Aside0.mk hb1
    clear hb1
    go_wp2_with fail
    go_ret
    exact ⟨rfl, HB1.out⟩
  · by_cases hb : 30 < n
    · go_wp2_with fail
      refine (known_.calls w HK.out).mono ?_
      rintro e w1 ⟨rfl, hb1⟩
      have HB1 := Aside0.mk hb1
      clear hb1
      go_wp2_with fail
      go_ret
      exact ⟨rfl, HB1.out⟩
    · go_wp2_with fail
      refine (known_.calls w HK.out).mono ?_
      rintro e w1 ⟨rfl, hb1⟩
      have H1 : Aside0 (Sh.Pm w (.slice none 0 0) (Sh.cat ps 0) w1) := ⟨⟨Kd.R_nil _ _ _ _ _, hb1⟩⟩
      clear hb1
      go_wp2_with fail
      go_loopw [6, 5] (fun v6 v5 wr => ∃ (i : Nat) (A4 : Option Addr) (c4 M : Nat), v6 = .int .i64 i ∧ i ≤ n ∧ v5 = .slice A4 M c4 ∧ Aside0 (M = (Sh.cat ps i).length) ∧ M ≤ 200 * i ∧ Aside0 (∀ j, j < i → (ps j).length ≤ 200) ∧ Aside0 (Sh.Pm w (.slice A4 M c4) (Sh.cat ps i) wr)) (fun v _ _ => n - (intOf v).toNat)
      case atStart => exact ⟨0, none, 0, 0, rfl, Nat.zero_le _, rfl, ⟨rfl⟩, Nat.zero_le _, ⟨fun j hj => absurd hj (by omega)⟩, H1⟩
      case round =>
        clear H1
        obtain ⟨i, A4, c4, M, rfl, hi, rfl, HM, hM, HJ, HP⟩ := hrel
        by_cases hlt : i < n
        · obtain ⟨ad, e1, hcell, hlc, hl64, hpb, hpC⟩ := HR.out i hlt
          subst e1
          obtain ⟨L, HL⟩ : ∃ L, Aside0 ((ps i).length = L) := ⟨_, ⟨rfl⟩⟩
          rw [HL.out] at hcell hlc hl64
          have hx : wr.cell? (ad.add i) = some (.slice (As i) L (Cs i)) := (HP.out.g.cell (World.block_lt_of_cell? w _ hcell)).trans hcell
          have HPB := Aside0.mk hpb
          have HPC := Aside0.mk hpC
          clear hpb hpC hcell
          obtain ⟨Ai, HAi⟩ : ∃ a, Aside0 (As i = a) := ⟨_, ⟨rfl⟩⟩
          obtain ⟨Ci, HCi⟩ : ∃ a, Aside0 (Cs i = a) := ⟨_, ⟨rfl⟩⟩
          rw [HAi.out, HCi.out] at hx
          rw [HAi.out] at HPC
          rw [HCi.out] at hlc
          by_cases h300 : 200 < L
          · go_wp2_with fail
            go_ret
            exact ⟨rfl, HP.out.g⟩
          · have HC3 : Aside0 (Kd.C (Kd.int .u8) wr Ai L (ps i)) := ⟨by have := Kd.C_below HPC.out HP.out.g; rwa [HL.out] at this⟩
            go_wp2_with ((with_reducible refine gate_builtin (b := .append) (xs := #[.tmp 32, .tmp 36]) rfl ?_); at_builtin; refine Kd.R_append_rows (Kd.int .u8) (w0 := w) w.heap.size rfl (.tmp 32) (.tmp 36) 22 5 (.int .u8 0) 1 rfl Tryd.underlying22 Sh.info8 rfl (by decide) (by omega) (.slice A4 M c4) (Sh.cat ps i) (ps i) Ai L Ci (fun _ => True) (fun _ => False) rfl rfl HP.out.r HC3.out (fun _ _ h => h) (fun _ h => h.elim) (fun k hk => trivial) HP.out.g HP.out.g.size (by rw [← HM.out]; omega) ?_; intro v4 w4 ho hb4 hg _; have H4 : Aside0 (Sh.Pm w v4 (Sh.cat ps (i + 1)) w4) := ⟨⟨ho, hb4⟩⟩; clear ho hb4 hg)
            obtain ⟨A5, c5, hv5⟩ := Kd.R_slice H4.out.r
            have hl5 : (Sh.cat ps (i + 1)).length = M + L := by rw [Sh.cat, List.length_append, HL.out, ← HM.out]
            rw [hl5] at hv5
            subst hv5
            have HM5 : Aside0 (M + L = (Sh.cat ps (i + 1)).length) := ⟨hl5.symm⟩
            have HJ5 : Aside0 (∀ j, j < i + 1 → (ps j).length ≤ 200) := ⟨fun j hj => by
              rcases Nat.lt_or_ge j i with h | h
              · exact HJ.out j h
              · obtain rfl : j = i := by omega
                rw [HL.out]; omega⟩
            clear hl5 HC3 HP HM hx
            go_wp2_with fail
            refine ⟨⟨i + 1, A5, c5, M + L, by go_num, by omega, rfl, HM5, by omega, HJ5, H4⟩, by simp [intOf]; omega⟩
        · obtain rfl : i = n := by omega
          obtain ⟨wq, rfl⟩ : ∃ q : World, q = wr := ⟨_, rfl⟩
          obtain ⟨D, HDD⟩ : ∃ D, Aside0 (Sh.u8s (Sh.hm key (Sh.cat ps i)) = D) := ⟨_, ⟨rfl⟩⟩
          have HBY : Aside0 (Sh.Bytes (Sh.cat ps i)) := ⟨Sh.cat_bytes' ps i (fun j hj => (HR.out j hj).choose_spec.2.2.2.2.1) i (Nat.le_refl _)⟩
          obtain ⟨eM, hMc, hC⟩ := Kd.R_reads' HP.out.r
          have HC := Aside0.mk hC
          clear hC eM
          have HF : Aside0 (Calls Tryd.prog 9 #[.slice A0 N0 c0, .slice B i c] wq fun e w' => e = .returned (.agg D) ∧ Below wq.heap.size wq w') := ⟨by
            have hrows : Sh.Rows w B i ps As Cs := fun j hj => by
              obtain ⟨ad, h1, h2, h3, h4, h5, h6⟩ := HR.out j hj
              exact ⟨ad, h1, h2, h3, h5, h6⟩
            have := of_.calls A0 c0 key B i c ps As Cs wq (HK.out.below HP.out.g) (Kd.C_below HR0.out HP.out.g) (by rw [HN0.out]; exact hc0) HY0.out (by rw [HN0.out]; omega) hmax (hrows.below HP.out.g) (fun j hj => Nat.le_trans (Sh.cat_long ps i j hj (fun k hk => HJ.out k (by omega))) (by omega))
            rw [HN0.out, HDD.out] at this
            exact this⟩
          go_wp2_with fail
          refine HF.out.mono ?_
          rintro e w3 ⟨rfl, hb3⟩
          have HB3 : Aside0 (Below w.heap.size w w3) := ⟨below_then HP.out.g HP.out.g.size hb3⟩
          have HC3 := Aside0.mk (Kd.C_below HC.out hb3)
          clear hb3 HF HP HC
          go_wp2_with fail
          generalize hWq : World.alloc w3 _ = W2
          have hcell : W2.cell? ⟨w3.heap.size, 0, none⟩ = some (.slice A4 M c4) := by rw [← hWq]; exact Lit.cell_new w3 #[.slice A4 M c4] 22 (0, 0) 0
          have HB2 : Aside0 (Below w.heap.size w W2 ∧ Below w3.heap.size w3 W2) := ⟨by rw [← hWq]; exact ⟨HB3.out.alloc HB3.out.size _, below_alloc (Below.refl _ _) _⟩⟩
          obtain ⟨bs, HBS⟩ : ∃ b, Aside0 (w3.heap.size = b) := ⟨_, ⟨rfl⟩⟩
          rw [HBS.out] at hcell ⊢
          have HCELL := Aside0.mk hcell
          clear hWq hcell HBS
          have HF : Aside0 (Calls Tryd.prog 9 #[.slice A0 N0 c0, .slice (some ⟨bs, 0, none⟩) 1 1] W2 fun e w' => e = .returned (.agg D) ∧ Below W2.heap.size W2 w') := ⟨by
            have := Sh.of1_ (bs := bs) (c0 := c0) (c1 := c4) (HK.out.below HB2.out.1) (Kd.C_below HR0.out HB2.out.1) (by rw [HN0.out]; exact hc0) HY0.out (by rw [HN0.out]; omega) (Kd.C_below HC3.out HB2.out.2) (by rw [← HM.out]; exact hMc) HBY.out (by rw [← HM.out]; omega) (by rw [← HM.out]; exact HCELL.out)
            rw [HN0.out, HDD.out] at this
            exact this⟩
          refine HF.out.mono ?_
          rintro e w5 ⟨rfl, hb5⟩
          have HB5 : Aside0 (Below w.heap.size w w5) := ⟨below_then HB2.out.1 HB2.out.1.size hb5⟩
          have heq : ∀ W, (Op.equalIn 10000 25 (.agg D) (.agg D)).run Tryd.prog W = .ok true W := fun W => by rw [← HDD.out]; exact Sh.hm_self key (Sh.cat ps i) W
          clear hb5 HF HB2 HCELL HC3
          go_wp2_with fail
          go_ret
          exact ⟨rfl, HB5.out⟩
#print axioms macPieces_.calls
end Go.Proofs.YthcilikinfhipaaDoor
