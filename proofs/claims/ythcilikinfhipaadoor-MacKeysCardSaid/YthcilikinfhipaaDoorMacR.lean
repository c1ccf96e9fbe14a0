/- The contract of the reference's Of. -/
import Derived.Test.YthcilikinfhipaaDoorMacO
import Derived.Test.YthcilikinfhipaaDoorShaRS
set_option linter.unusedVariables false
set_option linter.unusedSimpArgs false
namespace Go.Proofs.YthcilikinfhipaaDoor
open Go.RowKit Go.Proofs.YthcilikinfhipaaDoorW.PrintWords Go.Proofs.YthcilikinfhipaaDoorW.PrintLast Go.Proofs.YthcilikinfhipaaDoorW.PrintMore
namespace Sh
/-- two lists of the call's own, neither in the other's block -/
structure Two (w3 : World) (v7 v8 : Value) (a7 a8 : List Int) (wr : World) : Prop where
  r7 : Kd.R (Kd.int .u8) 5 wr w3.heap.size (fun k => some k ≠ v8.ownBlock) v7 a7
  r8 : Kd.R (Kd.int .u8) 5 wr w3.heap.size (fun k => some k ≠ v7.ownBlock) v8 a8
  g : Below w3.heap.size w3 wr
theorem own_lt {w : World} {e base : Nat} {ok : Nat → Prop} {v : Value} {xs : List Int} (h : Kd.R (Kd.int .u8) e w base ok v xs) (k : Nat) (hk : v.ownBlock = some k) : k < w.heap.size := ((Kd.R_bound h).1 k hk).2.2.1
theorem Two.fresh7 {w3 wr : World} {v7 v8 : Value} {a7 a8 : List Int} (h : Two w3 v7 v8 a7 a8 wr) (k : Nat) (hk : wr.heap.size ≤ k) : some k ≠ v8.ownBlock := fun e => by have := own_lt h.r8 k e.symm; omega
theorem Two.fresh8 {w3 wr : World} {v7 v8 : Value} {a7 a8 : List Int} (h : Two w3 v7 v8 a7 a8 wr) (k : Nat) (hk : wr.heap.size ≤ k) : some k ≠ v7.ownBlock := fun e => by have := own_lt h.r7 k e.symm; omega
theorem keep_other {w3 wr w4 : World} {v7 v7' v8 : Value} {a8 : List Int} (h : Kd.R (Kd.int .u8) 5 wr w3.heap.size (fun k => some k ≠ v7.ownBlock) v8 a8) (hg : wr.grownBy w4 v7.ownBlock) (hat : v7'.ownBlock = v7.ownBlock ∨ ∃ b, v7'.ownBlock = some b ∧ wr.heap.size ≤ b) : Kd.R (Kd.int .u8) 5 w4 w3.heap.size (fun k => some k ≠ v7'.ownBlock) v8 a8 := by
  refine Kd.R_mono (Kd.R_step (Kd.R_bound h) (fun k hk hlt => hg.block k hlt hk.1)) (fun k hk => ?_)
  rcases hat with e | ⟨b, e, hb⟩
  · rw [e]; exact hk.1
  · rw [e]
    intro e2
    have := Option.some.inj e2
    have := hk.2.2.1
    omega
theorem Two.first {w3 wr w4 : World} {v7 v8 v7' : Value} {a7 a8 a7' : List Int} (h : Two w3 v7 v8 a7 a8 wr) (hr : Kd.R (Kd.int .u8) 5 w4 w3.heap.size (fun k => some k ≠ v8.ownBlock) v7' a7') (hb : Below w3.heap.size w3 w4) (hg : wr.grownBy w4 v7.ownBlock) (hat : v7'.ownBlock = v7.ownBlock ∨ ∃ b, v7'.ownBlock = some b ∧ wr.heap.size ≤ b) : Two w3 v7' v8 a7' a8 w4 :=
  ⟨hr, keep_other h.r8 hg hat, hb⟩
theorem Two.second {w3 wr w4 : World} {v7 v8 v8' : Value} {a7 a8 a8' : List Int} (h : Two w3 v7 v8 a7 a8 wr) (hr : Kd.R (Kd.int .u8) 5 w4 w3.heap.size (fun k => some k ≠ v7.ownBlock) v8' a8') (hb : Below w3.heap.size w3 w4) (hg : wr.grownBy w4 v8.ownBlock) (hat : v8'.ownBlock = v8.ownBlock ∨ ∃ b, v8'.ownBlock = some b ∧ wr.heap.size ≤ b) : Two w3 v7 v8' a7 a8' w4 :=
  ⟨keep_other h.r7 hg hat, hr, hb⟩
theorem Two.below {w3 wr w4 : World} {v7 v8 : Value} {a7 a8 : List Int} (h : Two w3 v7 v8 a7 a8 wr) (hb : Below wr.heap.size wr w4) : Two w3 v7 v8 a7 a8 w4 :=
  ⟨Kd.R_step h.r7 (fun k _ hk => hb.block k hk), Kd.R_step h.r8 (fun k _ hk => hb.block k hk), below_then h.g h.g.size hb⟩
theorem C_len {w : World} {A : Option Addr} {l : List Int} {N : Nat} (hN : l.length = N) (h : Kd.C (Kd.int .u8) w A l.length l) : Kd.C (Kd.int .u8) w A N l := hN ▸ h
/-- a key's block, filled up -/
theorem kb_fill (key acc : List Int) (hacc : acc = if 64 < key.length then dig key else key) (z : Nat) (hz : acc.length + z = 64) : acc ++ List.replicate z 0 = kblock key := by
  subst hacc
  unfold kblock
  by_cases h : 64 < key.length
  · rw [if_pos h] at hz ⊢
    rw [if_pos h]
    rw [dig_length] at hz
    rw [show z = 32 by omega]
  · rw [if_neg h] at hz ⊢
    rw [if_neg h, show 64 - key.length = z by omega]
theorem turn_take (l : List Int) (t : Int) (i : Nat) (hi : i < l.length) : (turn l t).take (i + 1) = (turn l t).take i ++ [bits .xor .u8 (l.getD i 0) t] := by
  rw [List.take_add_one]
  congr 1
  simp [turn, List.getElem?_map, List.getElem?_eq_getElem hi, List.getD_eq_getElem?_getD]
end Sh
set_option maxHeartbeats 1600000 in
set_option maxRecDepth 100000 in
theorem refof_.calls (A : Option Addr) (c : Nat) (key : List Int) (Ab : Option Addr) (cb : Nat) (b : List Int) (w : World) (hrk : Kd.C (Kd.int .u8) w A key.length key) (hc : key.length ≤ c) (hby : Sh.Bytes key) (hlk : key.length ≤ 1099510000000)
    (hrb : Kd.C (Kd.int .u8) w Ab b.length b) (hcb : b.length ≤ cb) (hbb : Sh.Bytes b) (hlb : b.length ≤ 1099510000000) :
    Calls Tryd.prog 10 #[.slice A key.length c, .slice Ab b.length cb] w fun e w' => e = .returned (.agg (Sh.u8s (Sh.hm key b))) ∧ Below w.heap.size w w' := by
  have HRK := Aside0.mk hrk
  have HRB := Aside0.mk hrb
  have HBY := Aside0.mk hby
  have HBB := Aside0.mk hbb
  clear hrk hrb hby hbb
  obtain ⟨N, HN⟩ : ∃ N, Aside0 (key.length = N) := ⟨_, ⟨rfl⟩⟩
  obtain ⟨Nb, HNb⟩ : ∃ N, Aside0 (b.length = N) := ⟨_, ⟨rfl⟩⟩
  have hcN : N ≤ c := by rw [← HN.out]; exact hc
  have hlN : N ≤ 1099510000000 := by rw [← HN.out]; exact hlk
  have hlNb : Nb ≤ 1099510000000 := by rw [← HNb.out]; exact hlb
  rw [HN.out, HNb.out]
  have HO : Aside0 ((w.alloc (.cells (Sh.u8s (List.replicate 32 0)) 25)).heap[w.heap.size]? = some (.cells (Sh.u8s (List.replicate 32 0)) 25 (0, 0))) := ⟨heap_alloc_new _ _⟩
  have HB0 : Aside0 (Below w.heap.size w (w.alloc (.cells (Sh.u8s (List.replicate 32 0)) 25))) := ⟨below_alloc (Below.refl _ _) _⟩
  have HC0 : Aside0 (Kd.C (Kd.int .u8) (w.alloc (.cells (Sh.u8s (List.replicate 32 0)) 25)) A N key) := ⟨Sh.C_len HN.out (Kd.C_below HRK.out HB0.out)⟩
  have HS0 : Aside0 (w.heap.size < (w.alloc (.cells (Sh.u8s (List.replicate 32 0)) 25)).heap.size) := ⟨by show _ < (w.heap.push _).size; rw [Array.size_push]; omega⟩
  go_enter Tryd.func10, Tryd.ntmps10
  by_cases h64 : 64 < N
  · go_wp2_with fail
    obtain ⟨W0, HW0⟩ : ∃ W, Aside0 (w.alloc (.cells (Sh.u8s (List.replicate 32 0)) 25) = W) := ⟨_, ⟨rfl⟩⟩
    change Calls _ _ _ (w.alloc (.cells (Sh.u8s (List.replicate 32 0)) 25)) _
    rw [HW0.out] at HO HB0 HC0 HS0 ⊢
    obtain ⟨D0, HD0⟩ : ∃ D, Aside0 (Sh.u8s (Sh.dig key) = D) := ⟨_, ⟨rfl⟩⟩
    have HI0 : Aside0 ((Tryd.prog.info? 25).map (·.size) = some D0.size) := ⟨by rw [← HD0.out]; exact Sh.dig_info _⟩
    have HZ0 : Aside0 ((Sh.u8s (List.replicate 32 0)).size = D0.size) := ⟨by rw [← HD0.out]; exact Sh.dig_zeros _⟩
    have HE0 : Aside0 (D0.all (·.oneCell') = true) := ⟨by rw [← HD0.out]; exact Sh.dig_one _⟩
    have HF : Aside0 (Calls Tryd.prog 11 #[.slice A N c] W0 fun e w' => e = .returned (.agg D0) ∧ Below W0.heap.size W0 w') := ⟨by
      have := refsum_.calls A c key W0 (by rw [HN.out]; exact HC0.out) (by rw [HN.out]; exact hcN) HBY.out (by rw [HN.out]; omega)
      rw [HN.out, HD0.out] at this
      exact this⟩
    refine HF.out.mono ?_
    rintro e wa ⟨rfl, hba⟩
    have HBA : Aside0 (Below w.heap.size w wa) := ⟨below_then HB0.out HB0.out.size hba⟩
    have HOA : Aside0 (wa.heap[w.heap.size]? = some (.cells (Sh.u8s (List.replicate 32 0)) 25 (0, 0))) := ⟨(hba.block _ HS0.out).trans HO.out⟩
    have HXA := Aside0.mk (Sh.store_new wa D0)
    have HOB : Aside0 ((wa.alloc (.cells (Sh.u8s (List.replicate 32 0)) 25)).heap[wa.heap.size]? = some (.cells (Sh.u8s (List.replicate 32 0)) 25 (0, 0))) := ⟨heap_alloc_new wa _⟩
    obtain ⟨b6, HB6⟩ : ∃ b, Aside0 (wa.heap.size = b) := ⟨_, ⟨rfl⟩⟩
    have hsl6 := Sh.slice_all32 b6
    clear hba HF HW0 HO HB0 HC0 HS0
    go_wp2_with (first
      | (refine wpList_store_row rfl 25 (.tmp 6) (.tmp 15) rfl wa.heap.size D0 rfl rfl 25 _ HOB.out HI0.out HZ0.out HE0.out ?_; generalize hWq : World.setRow _ wa.heap.size D0 = Wb; have HXB : Aside0 (Wb.heap[wa.heap.size]? = some (.cells D0 25 (0, 0)) ∧ Below wa.heap.size wa Wb) := ⟨by rw [← hWq]; exact HXA.out⟩; clear hWq; rw [HB6.out]; have HCB : Aside0 (Kd.C (Kd.int .u8) Wb (some ⟨b6, 0, none⟩) 32 (Sh.dig key)) := ⟨Sh.C_len (Sh.dig_length _) (Lit.reads_block (HB6.out ▸ HXB.out.1) .u8 _ (by rw [← HD0.out]; simp [Sh.u8s]) (by rw [Sh.dig_length]; decide))⟩; have HGB : Aside0 (Below w.heap.size w Wb) := ⟨below_then HBA.out HBA.out.size HXB.out.2⟩; have HOBB : Aside0 (Wb.heap[w.heap.size]? = some (.cells (Sh.u8s (List.replicate 32 0)) 25 (0, 0))) := ⟨(HXB.out.2.block _ (Array.getElem?_eq_some_iff.1 HOA.out).1).trans HOA.out⟩; have HSB : Aside0 (w.heap.size < Wb.heap.size) := ⟨(Array.getElem?_eq_some_iff.1 HOBB.out).1⟩)
      | ((with_reducible refine gate_builtin (b := .append) (xs := #[.tmp 16, .tmp 17]) rfl ?_); at_builtin; refine Kd.R_append_rows (Kd.int .u8) (w0 := w) w.heap.size rfl (.tmp 16) (.tmp 17) 22 5 (.int .u8 0) 1 rfl Tryd.underlying22 Sh.info8 rfl (by decide) (by omega) (.slice none 0 0) ([] : List Int) (Sh.dig key) (some ⟨b6, 0, none⟩) 32 32 (fun k => w.heap.size < k) (fun _ => False) rfl rfl (Kd.R_nil _ _ _ _ _) HCB.out (fun _ _ h => h) (fun _ h => h.elim) (fun k hk => Nat.lt_of_lt_of_le HSB.out hk) HGB.out HGB.out.size (by simp) ?_; intro v1 w1 ho hb hg _; have H1 : Aside0 (Sh.Rm w v1 (Sh.dig key) w1) := ⟨⟨(hg.block _ HSB.out (by simp [Value.ownBlock])).trans HOBB.out, ho, hb⟩⟩; clear ho hb hg))
    obtain ⟨acc, HACCd⟩ : ∃ a, Aside0 (Sh.dig key = a) := ⟨_, ⟨rfl⟩⟩
    have HACC : Aside0 (acc = if 64 < key.length then Sh.dig key else key) := ⟨by rw [if_pos (by rw [HN.out]; exact h64), HACCd.out]⟩
    obtain ⟨NA, HNA⟩ : ∃ n, Aside0 (32 = n) := ⟨_, ⟨rfl⟩⟩
    have HAL : Aside0 (acc.length = NA) := ⟨by rw [← HACCd.out, Sh.dig_length, HNA.out]⟩
    have hNA : NA ≤ 64 := by rw [← HNA.out]; decide
    rw [HACCd.out] at H1
    clear HXA HOB hsl6 HBA HOA HCB HGB HOBB HSB HXB
    obtain ⟨A1, c1, hv1⟩ := Kd.R_slice H1.out.r
    rw [HAL.out] at hv1
    subst hv1
    have HQ0 : Aside0 (Sh.Rm w (.slice A1 NA c1) (acc ++ List.replicate 0 0) w1) := ⟨by simpa using H1.out⟩
    clear H1
    go_loopw [5] (fun v5 wr => ∃ (z : Nat) (A5 : Option Addr) (c5 M : Nat), v5 = .slice A5 M c5 ∧ M ≤ 64 ∧ Aside0 (M = NA + z) ∧ Aside0 (Sh.Rm w (.slice A5 M c5) (acc ++ List.replicate z 0) wr)) (fun v _ => match v with | .slice _ n _ => 64 - n | _ => 0)
    case atStart => exact ⟨0, A1, c1, NA, rfl, by omega, ⟨rfl⟩, HQ0⟩
    case round =>
      clear HQ0
      obtain ⟨z, A5, c5, M, rfl, hM, HMZ, HM⟩ := hrel
      have HML : Aside0 ((acc ++ List.replicate z 0).length = M) := ⟨by rw [List.length_append, List.length_replicate, HAL.out, HMZ.out]⟩
      by_cases hlt : M < 64
      · go_wp2_with ((with_reducible refine gate_builtin (b := .append) (xs := #[.tmp 25, .tmp 26]) rfl ?_); at_builtin; refine Kd.R_append (Kd.int .u8) (w0 := w) w.heap.size rfl (.tmp 25) (.tmp 26) 22 5 (.int .u8 0) 1 rfl Tryd.underlying22 Sh.info8 rfl (by decide) (by omega) (.slice A5 M c5) (acc ++ List.replicate z 0) 0 [.int .u8 0] (fun k => w.heap.size < k) (fun _ => False) rfl rfl rfl (fun _ h => h.elim) (fun k hk => Nat.lt_of_lt_of_le HM.out.lt hk) HM.out.r HM.out.g (Nat.le_of_lt HM.out.lt) (by rw [HML.out]; omega) ?_; intro v4 w4 ho hb hg _; have H4 : Aside0 (Sh.Rm w v4 (acc ++ List.replicate z 0 ++ [0]) w4) := ⟨HM.out.next ho hb hg⟩; clear ho hb hg)
        obtain ⟨A4, c4, hv4⟩ := Kd.R_slice H4.out.r
        have hl4 : (acc ++ List.replicate z 0 ++ [(0 : Int)]).length = M + 1 := by rw [List.length_append, HML.out]; rfl
        rw [hl4] at hv4
        subst hv4
        have H5 : Aside0 (Sh.Rm w (.slice A4 (M + 1) c4) (acc ++ List.replicate (z + 1) 0) w4) := ⟨by rw [List.replicate_succ', ← List.append_assoc]; exact H4.out⟩
        clear H4 HM hl4 HML
        refine ⟨⟨z + 1, A4, c4, M + 1, rfl, by omega, ⟨by rw [HMZ.out]; omega⟩, H5⟩, ?_⟩
        show 64 - (M + 1) < 64 - M
        omega
      · obtain rfl : M = 64 := by omega
        have HKB : Aside0 (acc ++ List.replicate z 0 = Sh.kblock key) := ⟨Sh.kb_fill key acc HACC.out z (by rw [HAL.out]; exact HMZ.out.symm)⟩
        obtain ⟨kb, HKBd⟩ : ∃ kb, Aside0 (Sh.kblock key = kb) := ⟨_, ⟨rfl⟩⟩
        have HKL : Aside0 (kb.length = 64) := ⟨by rw [← HKBd.out]; exact Sh.kblock_length key⟩
        rw [HKB.out, HKBd.out] at HM
        obtain ⟨w3, rfl⟩ : ∃ q : World, q = wr := ⟨_, rfl⟩
        obtain ⟨e5, hc5, hC5⟩ := Kd.R_reads' HM.out.r
        clear e5
        rw [HKL.out] at hC5
        have HC5 := Aside0.mk hC5
        have HT0 : Aside0 (Sh.Two w3 (.slice none 0 0) (.slice none 0 0) ((Sh.turn kb 54).take 0) ((Sh.turn kb 92).take 0) w3) := ⟨⟨Kd.R_nil _ _ _ _ _, Kd.R_nil _ _ _ _ _, Below.refl _ _⟩⟩
        clear hC5 HKB HML HMZ hlt hM
        go_wp2_with fail
        go_loopw [9, 7, 8] (fun v9 v7 v8 wr => ∃ (i : Nat) (A7 A8 : Option Addr) (c7 c8 : Nat), v9 = .int .i64 i ∧ i ≤ 64 ∧ v7 = .slice A7 i c7 ∧ v8 = .slice A8 i c8 ∧ Aside0 (Sh.Two w3 (.slice A7 i c7) (.slice A8 i c8) ((Sh.turn kb 54).take i) ((Sh.turn kb 92).take i) wr)) (fun v _ _ _ => 64 - (intOf v).toNat)
        case atStart => exact ⟨0, none, none, 0, 0, rfl, by omega, rfl, rfl, HT0⟩
        case round =>
          clear HT0
          obtain ⟨i, A7, A8, c7, c8, rfl, hi, rfl, rfl, HT⟩ := hrel
          by_cases hlt : i < 64
          · obtain ⟨ad, e, hcs⟩ := Kd.at_int HC5.out i (by omega) (by omega)
            subst e
            rw [Sh.rd_nat, Int.toNat_natCast] at hcs
            have hx : wr.cell? (ad.add i) = some (.int .u8 (kb.getD i 0)) := (HT.out.g.cell (World.block_lt_of_cell? w3 _ hcs)).trans hcs
            have HL7 : Aside0 (((Sh.turn kb 54).take i).length = i ∧ ((Sh.turn kb 92).take i).length = i) := ⟨by rw [List.length_take, List.length_take, Sh.turn_length, Sh.turn_length, HKL.out]; omega⟩
            have HTK : Aside0 ((Sh.turn kb 54).take (i + 1) = (Sh.turn kb 54).take i ++ [bits .xor .u8 (kb.getD i 0) 54] ∧ (Sh.turn kb 92).take (i + 1) = (Sh.turn kb 92).take i ++ [bits .xor .u8 (kb.getD i 0) 92]) := ⟨Sh.turn_take kb 54 i (by rw [HKL.out]; exact hlt), Sh.turn_take kb 92 i (by rw [HKL.out]; exact hlt)⟩
            have HCS := Aside0.mk hcs
            clear hcs
            generalize kb.getD i 0 = y at *
            go_wp2_with (first
              | ((with_reducible refine gate_builtin (b := .append) (xs := #[.tmp 32, .tmp 38]) rfl ?_); at_builtin; refine Kd.R_append (Kd.int .u8) (w0 := w3) w3.heap.size rfl (.tmp 32) (.tmp 38) 22 5 (.int .u8 0) 1 rfl Tryd.underlying22 Sh.info8 rfl (by decide) (by omega) (.slice A7 i c7) ((Sh.turn kb 54).take i) (bits .xor .u8 y 54) [.int .u8 (bits .xor .u8 y 54)] (fun k => some k ≠ (Value.slice A8 i c8).ownBlock) (fun _ => False) rfl rfl rfl (fun _ h => h.elim) (fun k hk => HT.out.fresh7 k hk) HT.out.r7 HT.out.g HT.out.g.size (by rw [HL7.out.1]; omega) ?_; intro v71 w41 ho hb hg hat; have HT1 : Aside0 (Sh.Two w3 v71 (.slice A8 i c8) ((Sh.turn kb 54).take i ++ [bits .xor .u8 y 54]) ((Sh.turn kb 92).take i) w41) := ⟨HT.out.first ho hb hg hat⟩; have hx1 : w41.cell? (ad.add i) = some (.int .u8 y) := ((HT1.out.g.cell (World.block_lt_of_cell? w3 _ HCS.out)).trans HCS.out); clear ho hb hg hat)
              | ((with_reducible refine gate_builtin (b := .append) (xs := #[.tmp 40, .tmp 46]) rfl ?_); at_builtin; refine Kd.R_append (Kd.int .u8) (w0 := w3) w3.heap.size rfl (.tmp 40) (.tmp 46) 22 5 (.int .u8 0) 1 rfl Tryd.underlying22 Sh.info8 rfl (by decide) (by omega) (.slice A8 i c8) ((Sh.turn kb 92).take i) (bits .xor .u8 y 92) [.int .u8 (bits .xor .u8 y 92)] (fun k => some k ≠ v71.ownBlock) (fun _ => False) rfl rfl rfl (fun _ h => h.elim) (fun k hk => HT1.out.fresh8 k hk) HT1.out.r8 HT1.out.g HT1.out.g.size (by rw [HL7.out.2]; omega) ?_; intro v81 w42 ho hb hg hat; have HT2 : Aside0 (Sh.Two w3 v71 v81 ((Sh.turn kb 54).take i ++ [bits .xor .u8 y 54]) ((Sh.turn kb 92).take i ++ [bits .xor .u8 y 92]) w42) := ⟨HT1.out.second ho hb hg hat⟩; clear ho hb hg hat))
            obtain ⟨A71, c71, hv7⟩ := Kd.R_slice HT2.out.r7
            obtain ⟨A81, c81, hv8⟩ := Kd.R_slice HT2.out.r8
            have hl7 : ((Sh.turn kb 54).take i ++ [bits .xor .u8 y 54]).length = i + 1 := by rw [List.length_append, HL7.out.1]; rfl
            have hl8 : ((Sh.turn kb 92).take i ++ [bits .xor .u8 y 92]).length = i + 1 := by rw [List.length_append, HL7.out.2]; rfl
            rw [hl7] at hv7
            rw [hl8] at hv8
            subst hv7
            subst hv8
            have HT3 : Aside0 (Sh.Two w3 (.slice A71 (i + 1) c71) (.slice A81 (i + 1) c81) ((Sh.turn kb 54).take (i + 1)) ((Sh.turn kb 92).take (i + 1)) w42) := ⟨by rw [HTK.out.1, HTK.out.2]; exact HT2.out⟩
            clear HT HT1 HT2 hl7 hl8 hx hx1 HTK HL7 HCS
            go_wp2_with fail
            exact ⟨⟨i + 1, A71, A81, c71, c81, by go_num, by omega, rfl, rfl, HT3⟩, by simp [intOf]; omega⟩
          · obtain rfl : i = 64 := by omega
            have HT3 : Aside0 (Sh.Two w3 (.slice A7 64 c7) (.slice A8 64 c8) (Sh.turn kb 54) (Sh.turn kb 92) wr) := ⟨by
              have := HT.out
              rwa [List.take_of_length_le (by rw [Sh.turn_length, HKL.out]; exact Nat.le_refl _), List.take_of_length_le (by rw [Sh.turn_length, HKL.out]; exact Nat.le_refl _)] at this⟩
            have HG3 : Aside0 (Below w.heap.size w w3) := ⟨HM.out.g⟩
            have HCb : Aside0 (Kd.C (Kd.int .u8) wr Ab Nb b) := ⟨Sh.C_len HNb.out (Kd.C_below HRB.out (below_then HM.out.g HM.out.g.size HT.out.g))⟩
            have HTL : Aside0 ((Sh.turn kb 54).length = 64 ∧ (Sh.turn kb 92).length = 64) := ⟨by rw [Sh.turn_length, Sh.turn_length, HKL.out]; exact ⟨rfl, rfl⟩⟩
            have HN0 : Aside0 (w3.heap[w.heap.size]? = some (.cells (Sh.u8s (List.replicate 32 0)) 25 (0, 0))) := ⟨HM.out.o⟩
            clear HT HM HC5 hlt hi
            go_wp2_with ((with_reducible refine gate_builtin (b := .append) (xs := #[.tmp 48, .tmp 49]) rfl ?_); at_builtin; refine Kd.R_append_rows (Kd.int .u8) (w0 := w3) w3.heap.size rfl (.tmp 48) (.tmp 49) 22 5 (.int .u8 0) 1 rfl Tryd.underlying22 Sh.info8 rfl (by decide) (by omega) (.slice A7 64 c7) (Sh.turn kb 54) b Ab Nb cb (fun k => some k ≠ (Value.slice A8 64 c8).ownBlock) (fun _ => False) rfl rfl HT3.out.r7 HCb.out (fun _ _ h => h) (fun _ h => h.elim) (fun k hk => HT3.out.fresh7 k hk) HT3.out.g HT3.out.g.size (by rw [HTL.out.1]; omega) ?_; intro v71 w41 ho hb hg hat; have HT4 : Aside0 (Sh.Two w3 v71 (.slice A8 64 c8) (Sh.turn kb 54 ++ b) (Sh.turn kb 92) w41) := ⟨HT3.out.first ho hb hg hat⟩; clear ho hb hg hat)
            obtain ⟨A71, c71, hv7⟩ := Kd.R_slice HT4.out.r7
            have HL7 : Aside0 ((Sh.turn kb 54 ++ b).length = 64 + Nb) := ⟨by rw [List.length_append, HTL.out.1, HNb.out]⟩
            rw [HL7.out] at hv7
            subst hv7
            obtain ⟨D1, HD1⟩ : ∃ D, Aside0 (Sh.u8s (Sh.dig (Sh.turn kb 54 ++ b)) = D) := ⟨_, ⟨rfl⟩⟩
            have HI1 : Aside0 ((Tryd.prog.info? 25).map (·.size) = some D1.size) := ⟨by rw [← HD1.out]; exact Sh.dig_info _⟩
            have HZ1 : Aside0 ((Sh.u8s (List.replicate 32 0)).size = D1.size) := ⟨by rw [← HD1.out]; exact Sh.dig_zeros _⟩
            have HE1 : Aside0 (D1.all (·.oneCell') = true) := ⟨by rw [← HD1.out]; exact Sh.dig_one _⟩
            have HF : Aside0 (Calls Tryd.prog 11 #[.slice A71 (64 + Nb) c71] w41 fun e w' => e = .returned (.agg D1) ∧ Below w41.heap.size w41 w') := ⟨by
              obtain ⟨e7, hc7, hC7⟩ := Kd.R_reads' HT4.out.r7
              have := refsum_.calls A71 c71 (Sh.turn kb 54 ++ b) w41 hC7 (by rw [HL7.out]; exact hc7) (Sh.app_bytes (Sh.turn_bytes _ _) HBB.out) (by rw [HL7.out]; omega)
              rw [HL7.out, HD1.out] at this
              exact this⟩
            refine HF.out.mono ?_
            rintro e w42 ⟨rfl, hb42⟩
            have HT5 := Aside0.mk (HT4.out.below hb42)
            have HX42 := Aside0.mk (Sh.store_new w42 D1)
            have HO42 : Aside0 ((w42.alloc (.cells (Sh.u8s (List.replicate 32 0)) 25)).heap[w42.heap.size]? = some (.cells (Sh.u8s (List.replicate 32 0)) 25 (0, 0))) := ⟨heap_alloc_new w42 _⟩
            obtain ⟨b10, HB10⟩ : ∃ b, Aside0 (w42.heap.size = b) := ⟨_, ⟨rfl⟩⟩
            have hsl := Sh.slice_all32 b10
            clear hb42 HF HT3 HT4 HCb
            go_wp2_with (first
              | (refine wpList_store_row rfl 25 (.tmp 10) (.tmp 52) rfl w42.heap.size D1 rfl rfl 25 _ HO42.out HI1.out HZ1.out HE1.out ?_; generalize hWq : World.setRow _ w42.heap.size D1 = W43; have HX43 : Aside0 (W43.heap[w42.heap.size]? = some (.cells D1 25 (0, 0)) ∧ Below w42.heap.size w42 W43) := ⟨by rw [← hWq]; exact HX42.out⟩; clear hWq; rw [HB10.out]; have HT6 : Aside0 (Sh.Two w3 (.slice A71 (64 + Nb) c71) (.slice A8 64 c8) (Sh.turn kb 54 ++ b) (Sh.turn kb 92) W43) := ⟨HT5.out.below HX43.out.2⟩; have HC10 : Aside0 (Kd.C (Kd.int .u8) W43 (some ⟨b10, 0, none⟩) 32 (Sh.dig (Sh.turn kb 54 ++ b))) := ⟨Sh.C_len (Sh.dig_length _) (Lit.reads_block (HB10.out ▸ HX43.out.1) .u8 _ (by rw [← HD1.out]; simp [Sh.u8s]) (by rw [Sh.dig_length]; decide))⟩)
              | ((with_reducible refine gate_builtin (b := .append) (xs := #[.tmp 53, .tmp 54]) rfl ?_); at_builtin; refine Kd.R_append_rows (Kd.int .u8) (w0 := w3) w3.heap.size rfl (.tmp 53) (.tmp 54) 22 5 (.int .u8 0) 1 rfl Tryd.underlying22 Sh.info8 rfl (by decide) (by omega) (.slice A8 64 c8) (Sh.turn kb 92) (Sh.dig (Sh.turn kb 54 ++ b)) (some ⟨b10, 0, none⟩) 32 32 (fun k => some k ≠ (Value.slice A71 (64 + Nb) c71).ownBlock) (fun _ => False) rfl rfl HT6.out.r8 HC10.out (fun _ _ h => h) (fun _ h => h.elim) (fun k hk => HT6.out.fresh8 k hk) HT6.out.g HT6.out.g.size (by rw [HTL.out.2]; omega) ?_; intro v81 w44 ho hb hg hat; have HT7 : Aside0 (Sh.Two w3 (.slice A71 (64 + Nb) c71) v81 (Sh.turn kb 54 ++ b) (Sh.turn kb 92 ++ Sh.dig (Sh.turn kb 54 ++ b)) w44) := ⟨HT6.out.second ho hb hg hat⟩; clear ho hb hg hat))
            obtain ⟨A81, c81, hv8⟩ := Kd.R_slice HT7.out.r8
            have HL8 : Aside0 ((Sh.turn kb 92 ++ Sh.dig (Sh.turn kb 54 ++ b)).length = 96) := ⟨by rw [List.length_append, HTL.out.2, Sh.dig_length]⟩
            rw [HL8.out] at hv8
            subst hv8
            obtain ⟨D2, HD2⟩ : ∃ D, Aside0 (Sh.u8s (Sh.hm key b) = D) := ⟨_, ⟨rfl⟩⟩
            have HI2 : Aside0 ((Tryd.prog.info? 25).map (·.size) = some D2.size) := ⟨by rw [← HD2.out]; exact Sh.dig_info _⟩
            have HZ2 : Aside0 ((Sh.u8s (List.replicate 32 0)).size = D2.size) := ⟨by rw [← HD2.out]; exact Sh.dig_zeros _⟩
            have HE2 : Aside0 (D2.all (·.oneCell') = true) := ⟨by rw [← HD2.out]; exact Sh.dig_one _⟩
            have HF : Aside0 (Calls Tryd.prog 11 #[.slice A81 96 c81] w44 fun e w' => e = .returned (.agg D2) ∧ Below w44.heap.size w44 w') := ⟨by
              obtain ⟨e8, hc8, hC8⟩ := Kd.R_reads' HT7.out.r8
              have := refsum_.calls A81 c81 (Sh.turn kb 92 ++ Sh.dig (Sh.turn kb 54 ++ b)) w44 hC8 (by rw [HL8.out]; exact hc8) (Sh.app_bytes (Sh.turn_bytes _ _) (Sh.dig_bytes _)) (by rw [HL8.out]; decide)
              rw [HL8.out, ← HKBd.out] at this
              rw [show Sh.u8s (Sh.dig (Sh.turn (Sh.kblock key) 92 ++ Sh.dig (Sh.turn (Sh.kblock key) 54 ++ b))) = D2 from HD2.out] at this
              exact this⟩
            refine HF.out.mono ?_
            rintro e w45 ⟨rfl, hb45⟩
            have HB45 : Aside0 (Below w3.heap.size w3 w45) := ⟨below_then HT7.out.g HT7.out.g.size hb45⟩
            have HO45 : Aside0 (w45.heap[w.heap.size]? = some (.cells (Sh.u8s (List.replicate 32 0)) 25 (0, 0))) := ⟨(HB45.out.block _ (Array.getElem?_eq_some_iff.1 HN0.out).1).trans HN0.out⟩
            have HBW : Aside0 (Below w.heap.size w w45) := ⟨below_then HG3.out HG3.out.size HB45.out⟩
            clear hb45 HF HT5 HT6 HT7 hsl
            go_wp2_with (refine wpList_store_row rfl 25 (.tmp 4) (.tmp 57) rfl w.heap.size D2 rfl rfl 25 _ HO45.out HI2.out HZ2.out HE2.out ?_)
            refine ⟨rfl, .agg D2, ?_, by rw [HD2.out], below_setRow HBW.out (Nat.le_refl _) D2⟩
            exact results_cell_row rfl _ _ w.heap.size 25 D2 (0, 0) _ rfl (setRow_heap w45 w.heap.size _ D2 _ _ HO45.out) Tryd.underlying25 rfl HI2.out
  · go_wp2_with ((with_reducible refine gate_builtin (b := .append) (xs := #[.tmp 19, .tmp 20]) rfl ?_); at_builtin; refine Kd.R_append_rows (Kd.int .u8) (w0 := w) w.heap.size rfl (.tmp 19) (.tmp 20) 22 5 (.int .u8 0) 1 rfl Tryd.underlying22 Sh.info8 rfl (by decide) (by omega) (.slice none 0 0) ([] : List Int) key A N c (fun k => w.heap.size < k) (fun _ => False) rfl rfl (Kd.R_nil _ _ _ _ _) HC0.out (fun _ _ h => h) (fun _ h => h.elim) (fun k hk => Nat.lt_of_lt_of_le HS0.out hk) HB0.out (Nat.le_of_lt HS0.out) (by simp only [List.length_nil]; omega) ?_; intro v1 w1 ho hb hg _; have H1 : Aside0 (Sh.Rm w v1 key w1) := ⟨⟨(hg.block _ HS0.out (by simp [Value.ownBlock])).trans HO.out, ho, hb⟩⟩; clear ho hb hg)
    obtain ⟨acc, HACCd⟩ : ∃ a, Aside0 (key = a) := ⟨_, ⟨rfl⟩⟩
    have HACC : Aside0 (acc = if 64 < key.length then Sh.dig key else key) := ⟨by rw [if_neg (by rw [HN.out]; exact h64), HACCd.out]⟩
    obtain ⟨NA, HNA⟩ : ∃ n, Aside0 (N = n) := ⟨_, ⟨rfl⟩⟩
    have HAL : Aside0 (acc.length = NA) := ⟨by rw [← HACCd.out, HN.out, HNA.out]⟩
    have hNA : NA ≤ 64 := by rw [← HNA.out]; omega
    have H1' : Aside0 (Sh.Rm w v1 acc w1) := ⟨by have := H1.out; rw [HACCd.out] at this; exact this⟩
    clear H1 HO HB0 HC0 HS0
    have H1 := H1'
    clear H1'
    obtain ⟨A1, c1, hv1⟩ := Kd.R_slice H1.out.r
    rw [HAL.out] at hv1
    subst hv1
    have HQ0 : Aside0 (Sh.Rm w (.slice A1 NA c1) (acc ++ List.replicate 0 0) w1) := ⟨by simpa using H1.out⟩
    clear H1
    go_loopw [5] (fun v5 wr => ∃ (z : Nat) (A5 : Option Addr) (c5 M : Nat), v5 = .slice A5 M c5 ∧ M ≤ 64 ∧ Aside0 (M = NA + z) ∧ Aside0 (Sh.Rm w (.slice A5 M c5) (acc ++ List.replicate z 0) wr)) (fun v _ => match v with | .slice _ n _ => 64 - n | _ => 0)
    case atStart => exact ⟨0, A1, c1, NA, rfl, by omega, ⟨rfl⟩, HQ0⟩
    case round =>
      clear HQ0
      obtain ⟨z, A5, c5, M, rfl, hM, HMZ, HM⟩ := hrel
      have HML : Aside0 ((acc ++ List.replicate z 0).length = M) := ⟨by rw [List.length_append, List.length_replicate, HAL.out, HMZ.out]⟩
      by_cases hlt : M < 64
      · go_wp2_with ((with_reducible refine gate_builtin (b := .append) (xs := #[.tmp 25, .tmp 26]) rfl ?_); at_builtin; refine Kd.R_append (Kd.int .u8) (w0 := w) w.heap.size rfl (.tmp 25) (.tmp 26) 22 5 (.int .u8 0) 1 rfl Tryd.underlying22 Sh.info8 rfl (by decide) (by omega) (.slice A5 M c5) (acc ++ List.replicate z 0) 0 [.int .u8 0] (fun k => w.heap.size < k) (fun _ => False) rfl rfl rfl (fun _ h => h.elim) (fun k hk => Nat.lt_of_lt_of_le HM.out.lt hk) HM.out.r HM.out.g (Nat.le_of_lt HM.out.lt) (by rw [HML.out]; omega) ?_; intro v4 w4 ho hb hg _; have H4 : Aside0 (Sh.Rm w v4 (acc ++ List.replicate z 0 ++ [0]) w4) := ⟨HM.out.next ho hb hg⟩; clear ho hb hg)
        obtain ⟨A4, c4, hv4⟩ := Kd.R_slice H4.out.r
        have hl4 : (acc ++ List.replicate z 0 ++ [(0 : Int)]).length = M + 1 := by rw [List.length_append, HML.out]; rfl
        rw [hl4] at hv4
        subst hv4
        have H5 : Aside0 (Sh.Rm w (.slice A4 (M + 1) c4) (acc ++ List.replicate (z + 1) 0) w4) := ⟨by rw [List.replicate_succ', ← List.append_assoc]; exact H4.out⟩
        clear H4 HM hl4 HML
        refine ⟨⟨z + 1, A4, c4, M + 1, rfl, by omega, ⟨by rw [HMZ.out]; omega⟩, H5⟩, ?_⟩
        show 64 - (M + 1) < 64 - M
        omega
      · obtain rfl : M = 64 := by omega
        have HKB : Aside0 (acc ++ List.replicate z 0 = Sh.kblock key) := ⟨Sh.kb_fill key acc HACC.out z (by rw [HAL.out]; exact HMZ.out.symm)⟩
        obtain ⟨kb, HKBd⟩ : ∃ kb, Aside0 (Sh.kblock key = kb) := ⟨_, ⟨rfl⟩⟩
        have HKL : Aside0 (kb.length = 64) := ⟨by rw [← HKBd.out]; exact Sh.kblock_length key⟩
        rw [HKB.out, HKBd.out] at HM
        obtain ⟨w3, rfl⟩ : ∃ q : World, q = wr := ⟨_, rfl⟩
        obtain ⟨e5, hc5, hC5⟩ := Kd.R_reads' HM.out.r
        clear e5
        rw [HKL.out] at hC5
        have HC5 := Aside0.mk hC5
        have HT0 : Aside0 (Sh.Two w3 (.slice none 0 0) (.slice none 0 0) ((Sh.turn kb 54).take 0) ((Sh.turn kb 92).take 0) w3) := ⟨⟨Kd.R_nil _ _ _ _ _, Kd.R_nil _ _ _ _ _, Below.refl _ _⟩⟩
        clear hC5 HKB HML HMZ hlt hM
        go_wp2_with fail
        go_loopw [9, 7, 8] (fun v9 v7 v8 wr => ∃ (i : Nat) (A7 A8 : Option Addr) (c7 c8 : Nat), v9 = .int .i64 i ∧ i ≤ 64 ∧ v7 = .slice A7 i c7 ∧ v8 = .slice A8 i c8 ∧ Aside0 (Sh.Two w3 (.slice A7 i c7) (.slice A8 i c8) ((Sh.turn kb 54).take i) ((Sh.turn kb 92).take i) wr)) (fun v _ _ _ => 64 - (intOf v).toNat)
        case atStart => exact ⟨0, none, none, 0, 0, rfl, by omega, rfl, rfl, HT0⟩
        case round =>
          clear HT0
          obtain ⟨i, A7, A8, c7, c8, rfl, hi, rfl, rfl, HT⟩ := hrel
          by_cases hlt : i < 64
          · obtain ⟨ad, e, hcs⟩ := Kd.at_int HC5.out i (by omega) (by omega)
            subst e
            rw [Sh.rd_nat, Int.toNat_natCast] at hcs
            have hx : wr.cell? (ad.add i) = some (.int .u8 (kb.getD i 0)) := (HT.out.g.cell (World.block_lt_of_cell? w3 _ hcs)).trans hcs
            have HL7 : Aside0 (((Sh.turn kb 54).take i).length = i ∧ ((Sh.turn kb 92).take i).length = i) := ⟨by rw [List.length_take, List.length_take, Sh.turn_length, Sh.turn_length, HKL.out]; omega⟩
            have HTK : Aside0 ((Sh.turn kb 54).take (i + 1) = (Sh.turn kb 54).take i ++ [bits .xor .u8 (kb.getD i 0) 54] ∧ (Sh.turn kb 92).take (i + 1) = (Sh.turn kb 92).take i ++ [bits .xor .u8 (kb.getD i 0) 92]) := ⟨Sh.turn_take kb 54 i (by rw [HKL.out]; exact hlt), Sh.turn_take kb 92 i (by rw [HKL.out]; exact hlt)⟩
            have HCS := Aside0.mk hcs
            clear hcs
            generalize kb.getD i 0 = y at *
            go_wp2_with (first
              | ((with_reducible refine gate_builtin (b := .append) (xs := #[.tmp 32, .tmp 38]) rfl ?_); at_builtin; refine Kd.R_append (Kd.int .u8) (w0 := w3) w3.heap.size rfl (.tmp 32) (.tmp 38) 22 5 (.int .u8 0) 1 rfl Tryd.underlying22 Sh.info8 rfl (by decide) (by omega) (.slice A7 i c7) ((Sh.turn kb 54).take i) (bits .xor .u8 y 54) [.int .u8 (bits .xor .u8 y 54)] (fun k => some k ≠ (Value.slice A8 i c8).ownBlock) (fun _ => False) rfl rfl rfl (fun _ h => h.elim) (fun k hk => HT.out.fresh7 k hk) HT.out.r7 HT.out.g HT.out.g.size (by rw [HL7.out.1]; omega) ?_; intro v71 w41 ho hb hg hat; have HT1 : Aside0 (Sh.Two w3 v71 (.slice A8 i c8) ((Sh.turn kb 54).take i ++ [bits .xor .u8 y 54]) ((Sh.turn kb 92).take i) w41) := ⟨HT.out.first ho hb hg hat⟩; have hx1 : w41.cell? (ad.add i) = some (.int .u8 y) := ((HT1.out.g.cell (World.block_lt_of_cell? w3 _ HCS.out)).trans HCS.out); clear ho hb hg hat)
              | ((with_reducible refine gate_builtin (b := .append) (xs := #[.tmp 40, .tmp 46]) rfl ?_); at_builtin; refine Kd.R_append (Kd.int .u8) (w0 := w3) w3.heap.size rfl (.tmp 40) (.tmp 46) 22 5 (.int .u8 0) 1 rfl Tryd.underlying22 Sh.info8 rfl (by decide) (by omega) (.slice A8 i c8) ((Sh.turn kb 92).take i) (bits .xor .u8 y 92) [.int .u8 (bits .xor .u8 y 92)] (fun k => some k ≠ v71.ownBlock) (fun _ => False) rfl rfl rfl (fun _ h => h.elim) (fun k hk => HT1.out.fresh8 k hk) HT1.out.r8 HT1.out.g HT1.out.g.size (by rw [HL7.out.2]; omega) ?_; intro v81 w42 ho hb hg hat; have HT2 : Aside0 (Sh.Two w3 v71 v81 ((Sh.turn kb 54).take i ++ [bits .xor .u8 y 54]) ((Sh.turn kb 92).take i ++ [bits .xor .u8 y 92]) w42) := ⟨HT1.out.second ho hb hg hat⟩; clear ho hb hg hat))
            obtain ⟨A71, c71, hv7⟩ := Kd.R_slice HT2.out.r7
            obtain ⟨A81, c81, hv8⟩ := Kd.R_slice HT2.out.r8
            have hl7 : ((Sh.turn kb 54).take i ++ [bits .xor .u8 y 54]).length = i + 1 := by rw [List.length_append, HL7.out.1]; rfl
            have hl8 : ((Sh.turn kb 92).take i ++ [bits .xor .u8 y 92]).length = i + 1 := by rw [List.length_append, HL7.out.2]; rfl
            rw [hl7] at hv7
            rw [hl8] at hv8
            subst hv7
            subst hv8
            have HT3 : Aside0 (Sh.Two w3 (.slice A71 (i + 1) c71) (.slice A81 (i + 1) c81) ((Sh.turn kb 54).take (i + 1)) ((Sh.turn kb 92).take (i + 1)) w42) := ⟨by rw [HTK.out.1, HTK.out.2]; exact HT2.out⟩
            clear HT HT1 HT2 hl7 hl8 hx hx1 HTK HL7 HCS
            go_wp2_with fail
            exact ⟨⟨i + 1, A71, A81, c71, c81, by go_num, by omega, rfl, rfl, HT3⟩, by simp [intOf]; omega⟩
          · obtain rfl : i = 64 := by omega
            have HT3 : Aside0 (Sh.Two w3 (.slice A7 64 c7) (.slice A8 64 c8) (Sh.turn kb 54) (Sh.turn kb 92) wr) := ⟨by
              have := HT.out
              rwa [List.take_of_length_le (by rw [Sh.turn_length, HKL.out]; exact Nat.le_refl _), List.take_of_length_le (by rw [Sh.turn_length, HKL.out]; exact Nat.le_refl _)] at this⟩
            have HG3 : Aside0 (Below w.heap.size w w3) := ⟨HM.out.g⟩
            have HCb : Aside0 (Kd.C (Kd.int .u8) wr Ab Nb b) := ⟨Sh.C_len HNb.out (Kd.C_below HRB.out (below_then HM.out.g HM.out.g.size HT.out.g))⟩
            have HTL : Aside0 ((Sh.turn kb 54).length = 64 ∧ (Sh.turn kb 92).length = 64) := ⟨by rw [Sh.turn_length, Sh.turn_length, HKL.out]; exact ⟨rfl, rfl⟩⟩
            have HN0 : Aside0 (w3.heap[w.heap.size]? = some (.cells (Sh.u8s (List.replicate 32 0)) 25 (0, 0))) := ⟨HM.out.o⟩
            clear HT HM HC5 hlt hi
            go_wp2_with ((with_reducible refine gate_builtin (b := .append) (xs := #[.tmp 48, .tmp 49]) rfl ?_); at_builtin; refine Kd.R_append_rows (Kd.int .u8) (w0 := w3) w3.heap.size rfl (.tmp 48) (.tmp 49) 22 5 (.int .u8 0) 1 rfl Tryd.underlying22 Sh.info8 rfl (by decide) (by omega) (.slice A7 64 c7) (Sh.turn kb 54) b Ab Nb cb (fun k => some k ≠ (Value.slice A8 64 c8).ownBlock) (fun _ => False) rfl rfl HT3.out.r7 HCb.out (fun _ _ h => h) (fun _ h => h.elim) (fun k hk => HT3.out.fresh7 k hk) HT3.out.g HT3.out.g.size (by rw [HTL.out.1]; omega) ?_; intro v71 w41 ho hb hg hat; have HT4 : Aside0 (Sh.Two w3 v71 (.slice A8 64 c8) (Sh.turn kb 54 ++ b) (Sh.turn kb 92) w41) := ⟨HT3.out.first ho hb hg hat⟩; clear ho hb hg hat)
            obtain ⟨A71, c71, hv7⟩ := Kd.R_slice HT4.out.r7
            have HL7 : Aside0 ((Sh.turn kb 54 ++ b).length = 64 + Nb) := ⟨by rw [List.length_append, HTL.out.1, HNb.out]⟩
            rw [HL7.out] at hv7
            subst hv7
            obtain ⟨D1, HD1⟩ : ∃ D, Aside0 (Sh.u8s (Sh.dig (Sh.turn kb 54 ++ b)) = D) := ⟨_, ⟨rfl⟩⟩
            have HI1 : Aside0 ((Tryd.prog.info? 25).map (·.size) = some D1.size) := ⟨by rw [← HD1.out]; exact Sh.dig_info _⟩
            have HZ1 : Aside0 ((Sh.u8s (List.replicate 32 0)).size = D1.size) := ⟨by rw [← HD1.out]; exact Sh.dig_zeros _⟩
            have HE1 : Aside0 (D1.all (·.oneCell') = true) := ⟨by rw [← HD1.out]; exact Sh.dig_one _⟩
            have HF : Aside0 (Calls Tryd.prog 11 #[.slice A71 (64 + Nb) c71] w41 fun e w' => e = .returned (.agg D1) ∧ Below w41.heap.size w41 w') := ⟨by
              obtain ⟨e7, hc7, hC7⟩ := Kd.R_reads' HT4.out.r7
              have := refsum_.calls A71 c71 (Sh.turn kb 54 ++ b) w41 hC7 (by rw [HL7.out]; exact hc7) (Sh.app_bytes (Sh.turn_bytes _ _) HBB.out) (by rw [HL7.out]; omega)
              rw [HL7.out, HD1.out] at this
              exact this⟩
            refine HF.out.mono ?_
            rintro e w42 ⟨rfl, hb42⟩
            have HT5 := Aside0.mk (HT4.out.below hb42)
            have HX42 := Aside0.mk (Sh.store_new w42 D1)
            have HO42 : Aside0 ((w42.alloc (.cells (Sh.u8s (List.replicate 32 0)) 25)).heap[w42.heap.size]? = some (.cells (Sh.u8s (List.replicate 32 0)) 25 (0, 0))) := ⟨heap_alloc_new w42 _⟩
            obtain ⟨b10, HB10⟩ : ∃ b, Aside0 (w42.heap.size = b) := ⟨_, ⟨rfl⟩⟩
            have hsl := Sh.slice_all32 b10
            clear hb42 HF HT3 HT4 HCb
            go_wp2_with (first
              | (refine wpList_store_row rfl 25 (.tmp 10) (.tmp 52) rfl w42.heap.size D1 rfl rfl 25 _ HO42.out HI1.out HZ1.out HE1.out ?_; generalize hWq : World.setRow _ w42.heap.size D1 = W43; have HX43 : Aside0 (W43.heap[w42.heap.size]? = some (.cells D1 25 (0, 0)) ∧ Below w42.heap.size w42 W43) := ⟨by rw [← hWq]; exact HX42.out⟩; clear hWq; rw [HB10.out]; have HT6 : Aside0 (Sh.Two w3 (.slice A71 (64 + Nb) c71) (.slice A8 64 c8) (Sh.turn kb 54 ++ b) (Sh.turn kb 92) W43) := ⟨HT5.out.below HX43.out.2⟩; have HC10 : Aside0 (Kd.C (Kd.int .u8) W43 (some ⟨b10, 0, none⟩) 32 (Sh.dig (Sh.turn kb 54 ++ b))) := ⟨Sh.C_len (Sh.dig_length _) (Lit.reads_block (HB10.out ▸ HX43.out.1) .u8 _ (by rw [← HD1.out]; simp [Sh.u8s]) (by rw [Sh.dig_length]; decide))⟩)
              | ((with_reducible refine gate_builtin (b := .append) (xs := #[.tmp 53, .tmp 54]) rfl ?_); at_builtin; refine Kd.R_append_rows (Kd.int .u8) (w0 := w3) w3.heap.size rfl (.tmp 53) (.tmp 54) 22 5 (.int .u8 0) 1 rfl Tryd.underlying22 Sh.info8 rfl (by decide) (by omega) (.slice A8 64 c8) (Sh.turn kb 92) (Sh.dig (Sh.turn kb 54 ++ b)) (some ⟨b10, 0, none⟩) 32 32 (fun k => some k ≠ (Value.slice A71 (64 + Nb) c71).ownBlock) (fun _ => False) rfl rfl HT6.out.r8 HC10.out (fun _ _ h => h) (fun _ h => h.elim) (fun k hk => HT6.out.fresh8 k hk) HT6.out.g HT6.out.g.size (by rw [HTL.out.2]; omega) ?_; intro v81 w44 ho hb hg hat; have HT7 : Aside0 (Sh.Two w3 (.slice A71 (64 + Nb) c71) v81 (Sh.turn kb 54 ++ b) (Sh.turn kb 92 ++ Sh.dig (Sh.turn kb 54 ++ b)) w44) := ⟨HT6.out.second ho hb hg hat⟩; clear ho hb hg hat))
            obtain ⟨A81, c81, hv8⟩ := Kd.R_slice HT7.out.r8
            have HL8 : Aside0 ((Sh.turn kb 92 ++ Sh.dig (Sh.turn kb 54 ++ b)).length = 96) := ⟨by rw [List.length_append, HTL.out.2, Sh.dig_length]⟩
            rw [HL8.out] at hv8
            subst hv8
            obtain ⟨D2, HD2⟩ : ∃ D, Aside0 (Sh.u8s (Sh.hm key b) = D) := ⟨_, ⟨rfl⟩⟩
            have HI2 : Aside0 ((Tryd.prog.info? 25).map (·.size) = some D2.size) := ⟨by rw [← HD2.out]; exact Sh.dig_info _⟩
            have HZ2 : Aside0 ((Sh.u8s (List.replicate 32 0)).size = D2.size) := ⟨by rw [← HD2.out]; exact Sh.dig_zeros _⟩
            have HE2 : Aside0 (D2.all (·.oneCell') = true) := ⟨by rw [← HD2.out]; exact Sh.dig_one _⟩
            have HF : Aside0 (Calls Tryd.prog 11 #[.slice A81 96 c81] w44 fun e w' => e = .returned (.agg D2) ∧ Below w44.heap.size w44 w') := ⟨by
              obtain ⟨e8, hc8, hC8⟩ := Kd.R_reads' HT7.out.r8
              have := refsum_.calls A81 c81 (Sh.turn kb 92 ++ Sh.dig (Sh.turn kb 54 ++ b)) w44 hC8 (by rw [HL8.out]; exact hc8) (Sh.app_bytes (Sh.turn_bytes _ _) (Sh.dig_bytes _)) (by rw [HL8.out]; decide)
              rw [HL8.out, ← HKBd.out] at this
              rw [show Sh.u8s (Sh.dig (Sh.turn (Sh.kblock key) 92 ++ Sh.dig (Sh.turn (Sh.kblock key) 54 ++ b))) = D2 from HD2.out] at this
              exact this⟩
            refine HF.out.mono ?_
            rintro e w45 ⟨rfl, hb45⟩
            have HB45 : Aside0 (Below w3.heap.size w3 w45) := ⟨below_then HT7.out.g HT7.out.g.size hb45⟩
            have HO45 : Aside0 (w45.heap[w.heap.size]? = some (.cells (Sh.u8s (List.replicate 32 0)) 25 (0, 0))) := ⟨(HB45.out.block _ (Array.getElem?_eq_some_iff.1 HN0.out).1).trans HN0.out⟩
            have HBW : Aside0 (Below w.heap.size w w45) := ⟨below_then HG3.out HG3.out.size HB45.out⟩
            clear hb45 HF HT5 HT6 HT7 hsl
            go_wp2_with (refine wpList_store_row rfl 25 (.tmp 4) (.tmp 57) rfl w.heap.size D2 rfl rfl 25 _ HO45.out HI2.out HZ2.out HE2.out ?_)
            refine ⟨rfl, .agg D2, ?_, by rw [HD2.out], below_setRow HBW.out (Nat.le_refl _) D2⟩
            exact results_cell_row rfl _ _ w.heap.size 25 D2 (0, 0) _ rfl (setRow_heap w45 w.heap.size _ D2 _ _ HO45.out) Tryd.underlying25 rfl HI2.out
#print axioms refof_.calls
end Go.Proofs.YthcilikinfhipaaDoor
