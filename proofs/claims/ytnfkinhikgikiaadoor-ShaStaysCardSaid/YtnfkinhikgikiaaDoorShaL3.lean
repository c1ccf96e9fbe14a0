/- The walk of the law ShaPieces. -/
import Derived.Test.YtnfkinhikgikiaaDoorShaL2
set_option linter.unusedVariables false
set_option linter.unusedSimpArgs false
namespace Go.Proofs.YtnfkinhikgikiaaDoor
open Go.RowKit Go.Proofs.YtnfkinhikgikiaaDoorW.PrintWords Go.Proofs.YtnfkinhikgikiaaDoorW.PrintLast Go.Proofs.YtnfkinhikgikiaaDoorW.PrintMore
namespace Sh
/-- the first pieces, one behind the other -/
def cat (ps : Nat → List Int) : Nat → List Int
  | 0 => []
  | i + 1 => cat ps i ++ ps i
theorem cat_bytes (ps : Nat → List Int) (n : Nat) (h : ∀ i, i < n → Bytes (ps i)) : ∀ i, i ≤ n → Bytes (cat ps i)
  | 0, _ => by intro x hx; cases hx
  | i + 1, hi => by
    intro x hx
    rcases List.mem_append.1 hx with hx | hx
    · exact cat_bytes ps n h i (by omega) x hx
    · exact h i (by omega) x hx
/-- what stands in memory while pieces are taken -/
structure Pc (w : World) (b : Nat) (v : Value) (acc r : List Int) (wr : World) : Prop where
  h : Ha wr b acc r
  r : Kd.R (Kd.int .u8) 5 wr w.heap.size (fun k => k ≠ b) v acc
  g : Below w.heap.size w wr
end Sh
set_option maxHeartbeats 1000000 in
set_option maxRecDepth 100000 in
theorem shaPieces_.calls (B : Option Addr) (n c : Nat) (ps : Nat → List Int) (As : Nat → Option Addr) (Cs : Nat → Nat) (w : World) (hk : Sh.Ks w) (hnc : n ≤ c) (hmax : n ≤ 9223372036854775807)
    (hr : ∀ i, i < n → ∃ ad, B = some ad ∧ w.cell? (ad.add i) = some (.slice (As i) (ps i).length (Cs i)) ∧ (ps i).length ≤ Cs i ∧ (ps i).length ≤ 9223372036854775807 ∧ Sh.Bytes (ps i) ∧ Kd.C (Kd.int .u8) w (As i) (ps i).length (ps i)) :
    Calls Tryd.prog 4 #[.slice B n c] w fun e w' => e = .returned (.bool true) ∧ Below w.heap.size w w' := by
  have HR := Aside0.mk hr
  have HK := Aside0.mk hk
  clear hr hk
  go_enter Tryd.func4, Tryd.ntmps4
  by_cases hb : 50 < n
  · go_wp2_with fail
    refine (known_.calls w HK.out).mono ?_
    rintro e w1 ⟨rfl, hb1⟩
    have HB1 := Aside0.mk hb1
    clear hb1
    go_wp2_with fail
    go_ret
    exact ⟨rfl, HB1.out⟩
  · go_wp2_with fail
    refine (known_.calls w HK.out).mono ?_
    rintro e w1 ⟨rfl, hb1⟩
    have HB1 := Aside0.mk hb1
    clear hb1
    go_wp2_with fail
    refine (new_.calls w1).mono ?_
    rintro e w2 ⟨rfl, h2, hb2⟩
    have HB2 : Aside0 (Below w.heap.size w w2) := ⟨below_then HB1.out HB1.out.size hb2⟩
    obtain ⟨b, HBB⟩ : ∃ b, Aside0 (w1.heap.size = b) := ⟨_, ⟨rfl⟩⟩
    have HBN : Aside0 (w.heap.size ≤ b ∧ 0 < b) := ⟨by rw [← HBB.out]; exact ⟨HB1.out.size, by have := HK.out.pos; have := HB1.out.size; omega⟩⟩
    rw [HBB.out] at h2 ⊢
    have H2 : Aside0 (Sh.Pc w b (.slice none 0 0) (Sh.cat ps 0) (List.replicate 64 0) w2) := ⟨⟨h2, Kd.R_nil _ _ _ _ _, HB2.out⟩⟩
    clear h2 hb2 HB1 HBB HB2
    go_wp2_with fail
    go_loopw [5, 4] (fun v5 v4 wr => ∃ (i : Nat) (r : List Int) (A4 : Option Addr) (c4 M : Nat), v5 = .int .i64 i ∧ i ≤ n ∧ v4 = .slice A4 M c4 ∧ Aside0 (M = (Sh.cat ps i).length) ∧ M ≤ 300 * i ∧ Aside0 (Sh.Pc w b (.slice A4 M c4) (Sh.cat ps i) r wr)) (fun v _ _ => n - (intOf v).toNat)
    case atStart => exact ⟨0, _, none, 0, 0, rfl, Nat.zero_le _, rfl, ⟨rfl⟩, Nat.zero_le _, H2⟩
    case round =>
      clear H2
      obtain ⟨i, r, A4, c4, M, rfl, hi, rfl, HM, hM, HP⟩ := hrel
      by_cases hlt : i < n
      · obtain ⟨ad, e1, hcell, hlc, hl64, hpb, hpC⟩ := HR.out i hlt
        subst e1
        obtain ⟨L, HL⟩ : ∃ L, Aside0 ((ps i).length = L) := ⟨_, ⟨rfl⟩⟩
        rw [HL.out] at hcell hlc hl64
        have hx : wr.cell? (ad.add i) = some (.slice (As i) L (Cs i)) := (HP.out.g.cell (World.block_lt_of_cell? w _ hcell)).trans hcell
        have HPB := Aside0.mk hpb
        have HPC := Aside0.mk hpC
        clear hpb hpC hcell
        obtain ⟨Ai, HAi⟩ : ∃ a, Aside0 (As i = a) := ⟨_, ⟨rfl⟩⟩
        obtain ⟨Ci, HCi⟩ : ∃ a, Aside0 (Cs i = a) := ⟨_, ⟨rfl⟩⟩
        rw [HAi.out, HCi.out] at hx
        rw [HAi.out] at HPC
        rw [HCi.out] at hlc
        by_cases h300 : 300 < L
        · go_wp2_with fail
          go_ret
          exact ⟨rfl, HP.out.g⟩
        · have HF : Aside0 (Calls Tryd.prog 11 #[.pointer (some ⟨b, 0, none⟩), .slice Ai L Ci] wr fun e w' => e = .returned (.tuple #[]) ∧ (∃ rest', Sh.Ha w' b (Sh.cat ps (i + 1)) rest') ∧ wr.grownBy w' (some b)) := ⟨by
            have := write_.calls b (Sh.cat ps i) r Ai Ci (ps i) wr HP.out.h (by have := HBN.out.2; omega) (HK.out.below HP.out.g) (Kd.C_below HPC.out HP.out.g) (by rw [HL.out]; exact hlc)
              (fun hl a e => Sh.far_of_C HPC.out hl e HBN.out.1) HPB.out (by rw [← HM.out, HL.out]; omega)
            rw [HL.out] at this
            exact this⟩
          go_wp2_with fail
          refine HF.out.mono ?_
          rintro e w3 ⟨rfl, ⟨r3, h3⟩, g3⟩
          have H3 := Aside0.mk h3
          have HW3 : Aside0 (Below w.heap.size w w3) := ⟨Sh.below_of_gb HP.out.g g3 HBN.out.1⟩
          have HR3 := Aside0.mk (Kd.R_step HP.out.r (fun k hk hlk => g3.block k hlk (fun e => hk (Option.some.inj e))))
          have hx3 : w3.cell? (ad.add i) = some (.slice Ai L Ci) := g3.cell hx (fun e => by
            have h1 := HR.out i hlt
            obtain ⟨ad', e', hc', _⟩ := h1
            obtain rfl := Option.some.inj e'
            have := World.block_lt_of_cell? w _ hc'
            have := HBN.out.1
            have := Option.some.inj e
            omega)
          have HC3 : Aside0 (Kd.C (Kd.int .u8) w3 Ai L (ps i)) := ⟨by have := Kd.C_below HPC.out HW3.out; rwa [HL.out] at this⟩
          have HLT : Aside0 (b < w3.heap.size) := ⟨H3.out.lt⟩
          clear h3 g3 HF HP hx HPC
          go_wp2_with ((with_reducible refine gate_builtin (b := .append) (xs := #[.tmp 33, .tmp 37]) rfl ?_); at_builtin; refine Kd.R_append_rows (Kd.int .u8) (w0 := w) w.heap.size rfl (.tmp 33) (.tmp 37) 22 5 (.int .u8 0) 1 rfl Tryd.underlying22 Sh.info8 rfl (by decide) (by omega) (.slice A4 M c4) (Sh.cat ps i) (ps i) Ai L Ci (fun k => k ≠ b) (fun _ => False) rfl rfl HR3.out HC3.out (fun _ _ h => h) (fun _ h => h.elim) (fun k hk e => by have := HLT.out; omega) HW3.out HW3.out.size (by rw [← HM.out]; omega) ?_; intro v4 w4 ho hb4 hg _; have H4 : Aside0 (Sh.Pc w b v4 (Sh.cat ps (i + 1)) r3 w4) := ⟨⟨⟨H3.out.len, H3.out.tl, H3.out.by_, (hg.block b HLT.out (fun e => (HR3.out.1 b e.symm) rfl)).trans H3.out.h⟩, ho, hb4⟩⟩; clear ho hb4 hg)
          obtain ⟨A5, c5, hv5⟩ := Kd.R_slice H4.out.r
          have hl5 : (Sh.cat ps (i + 1)).length = M + L := by rw [Sh.cat, List.length_append, HL.out, ← HM.out]
          rw [hl5] at hv5
          subst hv5
          have HM5 : Aside0 (M + L = (Sh.cat ps (i + 1)).length) := ⟨hl5.symm⟩
          clear hl5 hx3 HR3 H3 HW3 HC3
          go_wp2_with fail
          refine ⟨⟨i + 1, r3, A5, c5, M + L, by go_num, by omega, rfl, HM5, by omega, H4⟩, by simp [intOf]; omega⟩
      · obtain rfl : i = n := by omega
        obtain ⟨l, HLL⟩ : ∃ l, Aside0 (Sh.cat ps i = l) := ⟨_, ⟨rfl⟩⟩
        rw [HLL.out] at HM HP
        have HBY : Aside0 (Sh.Bytes l) := ⟨by rw [← HLL.out]; exact Sh.cat_bytes ps i (fun j hj => (HR.out j hj).choose_spec.2.2.2.2.1) i (Nat.le_refl _)⟩
        obtain ⟨D, HDD⟩ : ∃ D, Aside0 (Sh.u8s (Sh.dig l) = D) := ⟨_, ⟨rfl⟩⟩
        have HF : Aside0 (Calls Tryd.prog 12 #[.pointer (some ⟨b, 0, none⟩)] wr fun e w' => e = .returned (.agg D) ∧ Below wr.heap.size wr w') := ⟨by
          have := sum_.calls b l r wr HP.out.h (HK.out.below HP.out.g) HBY.out (by rw [← HM.out]; omega)
          rw [HDD.out] at this
          exact this⟩
        go_wp2_with fail
        refine HF.out.mono ?_
        rintro e w4 ⟨rfl, hb4⟩
        have HB4 : Aside0 (Below w.heap.size w w4) := ⟨below_then HP.out.g HP.out.g.size hb4⟩
        have HH4 := Aside0.mk (HP.out.h.below hb4)
        obtain ⟨eM, hMc, hC⟩ := Kd.R_reads' HP.out.r
        have HC4 := Aside0.mk (Kd.C_below hC hb4)
        clear hb4 HF HP hC eM
        go_wp2_with fail
        have HF : Aside0 (Calls Tryd.prog 8 #[.slice A4 M c4] w4 fun e w' => e = .returned (.agg D) ∧ Below w4.heap.size w4 w') := ⟨by
          have := lawsum_.calls A4 c4 l w4 (HK.out.below HB4.out) HC4.out (by rw [← HM.out]; exact hMc) HBY.out (by rw [← HM.out]; omega)
          rw [← HM.out, HDD.out] at this
          exact this⟩
        refine HF.out.mono ?_
        rintro e w5 ⟨rfl, hb5⟩
        have HB5 : Aside0 (Below w.heap.size w w5) := ⟨below_then HB4.out HB4.out.size hb5⟩
        have HH5 := Aside0.mk (HH4.out.below hb5)
        have heq : ∀ W, (Op.equalIn 10000 25 (.agg D) (.agg D)).run Tryd.prog W = .ok true W := fun W => by rw [← HDD.out]; exact Sh.eq_self (Sh.dig l) (Sh.dig_length l) W
        clear hb5 HF HB4 HC4 HH4
        go_wp2_with fail
        have HF : Aside0 (Calls Tryd.prog 13 #[.pointer (some ⟨b, 0, none⟩)] w5 fun e w' => e = .returned (.int .u64 (M : Int)) ∧ w' = w5) := ⟨by
          have := len_.calls b _ _ w5 HH5.out
          rw [← HM.out] at this
          exact this⟩
        refine HF.out.mono ?_
        rintro e w6 ⟨rfl, rfl⟩
        clear HF HH5
        go_wp2_with fail
        go_ret
        exact ⟨by simp, HB5.out⟩
#print axioms shaPieces_.calls
end Go.Proofs.YtnfkinhikgikiaaDoor
