/- The walk of the law ReqBack. -/
import Derived.Test.YtemhlinodccokaaReqW
set_option linter.unusedVariables false
set_option linter.unusedSimpArgs false
namespace Go.Proofs.Ytemhlinodccokaa
open Go.RowKit Go.Proofs.Ytemhlinodccokaa Go.Proofs.Ytemhlinodccokaa.PBase Go.Proofs.YtemhlinodccokaaW.PrintWords Go.Proofs.YtemhlinodccokaaW.PrintLast Go.Proofs.YtemhlinodccokaaW.PrintMore Go.Proofs.Ytemhlinodccokaa.Wi
namespace Rw
theorem want_yes {w : World} {r : Rq} {A : Option Addr} {nd c : Nat} (hk : r.2.1 = 1) (hn : r.2.2.2.2.2.length = nd) (h : kRq.K w r (rqc r.1 r.2.1 r.2.2.1 r.2.2.2.1 r.2.2.2.2.1 (.slice A nd c))) : kRq.K w (r.1, r.2.1, r.2.2.1, r.2.2.2.1, wl r, wd r) (rqc r.1 r.2.1 r.2.2.1 r.2.2.2.1 nd (.slice A nd c)) := by
  obtain ⟨A', c', he, hl, hC⟩ := rq_cells h
  simp only [rqc, List.cons.injEq, Value.slice.injEq, and_true, true_and] at he
  obtain ⟨rfl, _, rfl⟩ := he
  subst hn
  have e1 : wl r = r.2.2.2.2.2.length := if_pos hk
  have e2 : wd r = r.2.2.2.2.2 := if_pos hk
  rw [e1, e2]
  exact K_of hl hC
theorem want_no {r : Rq} (hk : ¬ r.2.1 = 1) (w : World) : kRq.K w (r.1, r.2.1, r.2.2.1, r.2.2.2.1, wl r, wd r) (rqc r.1 r.2.1 r.2.2.1 r.2.2.2.1 r.2.2.2.2.1 (.slice none 0 0)) := by
  have e1 : wl r = r.2.2.2.2.1 := if_neg hk
  have e2 : wd r = [] := if_neg hk
  rw [e1, e2]
  exact K_of (data := []) (A := none) (c := 0) (Nat.le_refl _) (Kd.C_nil _ _)
end Rw
set_option maxHeartbeats 2000000 in
set_option maxRecDepth 100000 in
theorem reqBack_.calls (x0 : Rq) (cs0 : List Value) (x1 : List Int) (v1 : Value) (x2 : Int) (v2 : Value) (W : World) (hK0 : kRq.K W x0 cs0) (hw0 : RqWf x0) (hK1 : (Kd.slice 5 (Kd.int .u8)).K W x1 [v1]) (hw1 : x1.length ≤ maxLen ∧ ∀ x ∈ x1, (Lit.int .u8 x).wf = true) (hK2 : (Kd.int .i64).K W x2 [v2]) (hw2 : (Lit.int .i64 x2).wf = true) :
    Calls Try.prog 6 #[.agg cs0.toArray, v1, v2] W fun e w' => e = .returned (.bool true) ∧ Below W.heap.size W w' := by
  have HK := Aside0.mk hK0
  have HWF := Aside0.mk hw0
  obtain ⟨A, c, rfl, hl, hC⟩ := rq_cells hK0
  obtain ⟨A1, c1, he1, hl1, hC1⟩ := hK1
  obtain rfl : v1 = .slice A1 x1.length c1 := by simpa using he1
  obtain rfl : v2 = .int .i64 x2 := by cases hK2; rfl
  obtain ⟨r, HRX⟩ : ∃ r, Aside0 (x0 = r) := ⟨_, ⟨rfl⟩⟩
  rw [HRX.out] at HK HWF ⊢
  obtain ⟨nd, HND⟩ : ∃ n, Aside0 (r.2.2.2.2.2.length = n) := ⟨_, ⟨rfl⟩⟩
  obtain ⟨nm, HNM⟩ : ∃ n, Aside0 (x1.length = n) := ⟨_, ⟨rfl⟩⟩
  rw [HND.out] at HK ⊢
  rw [HNM.out] at hl1 hC1 ⊢
  have HC1 := Aside0.mk hC1
  have HL1 := Aside0.mk hl1
  have HY1 := Aside0.mk (Rw.bytes_of hw1.2)
  have HSZ := Aside0.mk Rw.size28
  clear hK0 hw0 hl hC he1 hl1 hC1 hK2 hw1 hw2
  by_cases hnd : (nd : Int) > 2000
  · skip
    go_enter Try.func6, Try.ntmps6
    go_wp2_with fail
    refine (kn_.calls _).mono ?_
    rintro e w1 ⟨rfl, hb⟩
    go_wp2_with fail
    go_ret
    exact ⟨rfl, Below.trans (below_alloc (Below.refl _ _) _) (hb.mono (by simp))⟩
  by_cases hnm : (nm : Int) > 2000
  · skip
    go_enter Try.func6, Try.ntmps6
    go_wp2_with fail
    refine (kn_.calls _).mono ?_
    rintro e w1 ⟨rfl, hb⟩
    go_wp2_with fail
    go_ret
    exact ⟨rfl, Below.trans (below_alloc (Below.refl _ _) _) (hb.mono (by simp))⟩
  go_enter Try.func6, Try.ntmps6
  go_wp2_with fail
  refine (kn_.calls _).mono ?_
  rintro e w1 ⟨rfl, hb⟩
  have HX1 : Aside0 (Wk.Blk w1 W.heap.size 28 (Rw.rqc r.1 r.2.1 r.2.2.1 r.2.2.2.1 r.2.2.2.2.1 (.slice A nd c))) := ⟨(Wk.Blk.new W 28 (Rw.rqc r.1 r.2.1 r.2.2.1 r.2.2.2.1 r.2.2.2.2.1 (.slice A nd c))).below_ hb⟩
  have HB1 : Aside0 (Below W.heap.size W w1) := ⟨Below.trans (below_alloc (Below.refl _ _) _) (hb.mono (by simp))⟩
  have HK1 : Aside0 (kRq.K w1 r (Rw.rqc r.1 r.2.1 r.2.2.1 r.2.2.2.1 r.2.2.2.2.1 (.slice A nd c))) := ⟨kRq.K_below HB1.out HK.out⟩
  clear hb
  go_wp2_with (refine Wk.load rfl 28 (.tmp 3) rfl _ (.pointer (some ⟨W.heap.size, 0, none⟩)) rfl (Wk.run_load_blk 28 W.heap.size 0 (Rw.rqc r.1 r.2.1 r.2.2.1 r.2.2.2.1 r.2.2.2.2.1 (.slice A nd c)) _ HX1.out rfl Try.underlying28 rfl HSZ.out) ?_)
  refine (wr_.calls HK1.out HWF.out (by rw [HND.out]; omega)).mono ?_
  rintro e w2 ⟨A2, c2, rfl, hR2, hb2⟩
  obtain ⟨nb, HNB⟩ : ∃ n, Aside0 ((Rw.bs r).length = n) := ⟨_, ⟨rfl⟩⟩
  have HBL : Aside0 (28 ≤ nb ∧ nb ≤ 3000) := ⟨by have h1 := Rw.bs_len r; have h2 := HND.out; rw [HNB.out] at h1; split at h1 <;> omega⟩
  obtain ⟨-, hl2, hC2⟩ := Kd.R_reads' hR2
  rw [HNB.out] at hl2 hC2 ⊢
  have HC2 := Aside0.mk hC2
  have HL2 := Aside0.mk hl2
  have HB2 := Aside0.mk (below_then HB1.out HB1.out.size hb2)
  have HX2 := Aside0.mk (HX1.out.below_ hb2)
  clear hR2 hb2 hl2 hC2 HX1 HB1 HK1
  go_wp2_with fail
  have hlent : Calls Try.prog 10 #[.slice A2 nb c2] w2 fun e w' => ∃ A c, e = .returned (.slice A nb c) ∧ Kd.R (Kd.int .u8) 5 w' w2.heap.size (fun _ => True) (.slice A nb c) (Rw.bs r) ∧ Below w2.heap.size w2 w' := by
    have := lent_.calls (w := w2) (A := A2) (c := c2) (l := Rw.bs r) (by rw [HNB.out]; exact HC2.out) (by rw [HNB.out]; exact HL2.out) (by rw [HNB.out]; have := HBL.out; omega)
    rw [HNB.out] at this
    exact this
  refine hlent.mono ?_
  clear hlent
  rintro e w3 ⟨A3, c3, rfl, hR3, hb3⟩
  have HR3 := Aside0.mk hR3
  have HB3 := Aside0.mk hb3
  have HCM : Aside0 (Kd.C (Kd.int .u8) w3 A1 nm x1) := ⟨Kd.C_below HC1.out (below_then HB2.out HB2.out.size hb3)⟩
  have HAL : Aside0 (((Rw.bs r).length + nm) * 1 ≤ 140737488355328) := ⟨by have h1 := HNB.out; have h2 := HBL.out; omega⟩
  clear hR3 hb3
  go_wp2_with (at_builtin; refine Kd.R_append_rows (Kd.int .u8) (w0 := w2) w2.heap.size rfl (.tmp 34) (.tmp 35) 22 5 (.int .u8 0) 1 rfl Try.underlying22 Rw.infoByte rfl (by decide) (by omega) (.slice A3 nb c3) (Rw.bs r) x1 A1 nm c1 (fun _ => True) (fun _ => False) rfl rfl HR3.out HCM.out (fun _ _ h => h) (fun _ h => h.elim) (fun _ _ => trivial) HB3.out HB3.out.size HAL.out ?_; intro v4 w4 ho hb _ _; obtain ⟨A4, c4, rfl⟩ := Kd.R_slice ho; obtain ⟨na, HNA⟩ : ∃ n, Aside0 ((Rw.bs r ++ x1).length = n) := ⟨_, ⟨rfl⟩⟩; rw [HNA.out] at ho ⊢; have HR4 := Aside0.mk ho; have HB4 := Aside0.mk hb; clear ho hb)
  have HDN : Aside0 (r.2.2.2.2.2.length ≤ 65536) := ⟨by rw [HND.out]; omega⟩
  obtain ⟨mw, HMW⟩ : ∃ n, Aside0 ((Rw.wd r).length = n) := ⟨_, ⟨rfl⟩⟩
  have hnext : Calls Try.prog 11 #[.slice A4 na c4] w4 fun e w' => ∃ A c, e = .returned (.tuple #[.agg (Rw.rqc r.1 r.2.1 r.2.2.1 r.2.2.2.1 (Rw.wl r) (.slice A mw c)).toArray, .int .i64 nb, .int .u16 0]) ∧ Kd.R (Kd.int .u8) 5 w' w4.heap.size (fun _ => True) (.slice A mw c) (Rw.wd r) ∧ Below w4.heap.size w4 w' := by
    obtain ⟨h1, h2, h3⟩ := Kd.R_reads' HR4.out
    have := next_.calls (w := w4) (A := A4) (c := c4) (l := Rw.bs r ++ x1) h3 (by rw [HNA.out]; exact h2) (by rw [List.length_append, HNB.out, HNM.out]; have := HBL.out; omega) (bytes_app (Rw.bs_bytes HWF.out) HY1.out) (Rw.next_whole r HWF.out HDN.out x1)
    rw [HNA.out, HNB.out, HMW.out] at this
    exact this
  refine hnext.mono ?_
  clear hnext
  rintro e w5 ⟨A5, c5, rfl, hR5, hb5⟩
  obtain ⟨-, hl5, hC5⟩ := Kd.R_reads' hR5
  have HB25 := Aside0.mk (below_then HB4.out HB4.out.size hb5)
  have HB5 := Aside0.mk (below_then HB2.out HB2.out.size HB25.out)
  have HX5 := Aside0.mk (HX2.out.below_ HB25.out)
  have HC5 := Aside0.mk (Kd.C_below HC2.out HB25.out)
  have HKX5 : Aside0 (kRq.K w5 (r.1, r.2.1, r.2.2.1, r.2.2.2.1, Rw.wl r, Rw.wd r) (Rw.rqc r.1 r.2.1 r.2.2.1 r.2.2.2.1 (Rw.wl r) (.slice A5 mw c5))) := ⟨by
    have := Rw.K_of (fl := r.1) (kd := r.2.1) (ck := r.2.2.1) (off := r.2.2.2.1) (len := Rw.wl r) (data := Rw.wd r) (A := A5) (c := c5) (by rw [HMW.out]; exact hl5) hC5
    rw [HMW.out] at this
    exact this⟩
  have HN5 := Aside0.mk (Wk.Blk.new w5 28 Rw.zrq)
  clear hR5 hb5 hl5 hC5 HR4 HB4 HX2 HB2 HC2 HR3 HB3 HCM HAL
  have hnb : (0 : Int) < nb := by have := HBL.out; omega
  have hnb2 : (nb : Int) ≤ 3000 := by have := HBL.out; omega
  have hs0 : ∀ W : World, (Instr.slice 22 (.slice A2 nb c2) none (some (.int .i64 0)) none).run Try.prog W = .ok (.slice A2 0 c2) W := by
    have := Wk.cut_to_ (P := Try.prog) 22 5 .i64 Try.underlying22 Rw.infoByte1 A2 c2 (Rw.bs r) 0 0 rfl (Nat.zero_le _) (by rw [HNB.out]; exact HL2.out)
    rwa [HNB.out] at this
  have hpm : 0 ≤ x2 % (nb : Int) ∧ x2 % (nb : Int) < nb := ⟨Int.emod_nonneg _ (by omega), Int.emod_lt_of_pos _ hnb⟩
  have HPM := Aside0.mk hpm
  have hs1 : ∀ W : World, (Instr.slice 22 (.slice A2 nb c2) none (some (.int .i64 (x2 % (nb : Int)))) none).run Try.prog W = .ok (.slice A2 (x2 % (nb : Int)).toNat c2) W := by
    have := Wk.cut_to_ (P := Try.prog) 22 5 .i64 Try.underlying22 Rw.infoByte1 A2 c2 (Rw.bs r) (x2 % (nb : Int)) (x2 % (nb : Int)).toNat (Int.toNat_of_nonneg hpm.1).symm (by rw [HNB.out]; omega) (by rw [HNB.out]; exact HL2.out)
    rwa [HNB.out] at this
  have hpc1 := hpm.1
  have hpc2 : x2 % (nb : Int) ≤ (c2 : Int) := by have := HL2.out; omega
  clear hpm
  unfold Rw.rqc
  go_wp2_with (refine Wk.store_all rfl rfl 28 (.tmp 9) (.tmp 40) rfl w5.heap.size (Rw.rqc r.1 r.2.1 r.2.2.1 r.2.2.2.1 (Rw.wl r) (.slice A5 mw c5)) rfl rfl 28 Rw.zrq HN5.out HSZ.out rfl rfl ?_; intro w6 hX hO; have HY6 := Aside0.mk hX; have HB56 := Aside0.mk (Wk.Only.below ((Below.refl _ _).alloc (Nat.le_refl _) _) hO (Nat.le_refl _)); clear hX hO)
  · have hpb : 0 < nb := by omega
    clear hpc1 hpc2
    have hfr : Calls Try.prog 11 #[.slice A2 0 c2] w6 fun e w' => ∃ A c, e = .returned (.tuple #[.agg (Rw.rqc 0 0 0 0 0 (.slice A 0 c)).toArray, .int .i64 0, .int .u16 80]) ∧ Below w6.heap.size w6 w' := by
      have hl : ((Rw.bs r).take 0).length = 0 := by rw [List.length_take, HNB.out]; omega
      have hC : Kd.C (Kd.int .u8) w6 A2 ((Rw.bs r).take 0).length ((Rw.bs r).take 0) := Kd.C_take (by rw [HNB.out]; exact Kd.C_below HC5.out HB56.out) (by rw [HNB.out]; omega)
      have := next_.calls (w := w6) (A := A2) (c := c2) (l := (Rw.bs r).take 0) hC (by rw [hl]; have := HL2.out; omega) (by rw [hl]; have := HBL.out; omega) (fun x hx => Rw.bs_bytes HWF.out x (List.mem_of_mem_take hx)) (Rw.next_front r HWF.out HDN.out 0 (by rw [HNB.out]; omega))
      rw [hl] at this
      refine this.mono ?_
      rintro e w' ⟨A, c, rfl, _, hb⟩
      exact ⟨A, c, rfl, hb⟩
    refine hfr.mono ?_
    clear hfr
    rintro e w7 ⟨A7, c7, rfl, hb7⟩
    have HB67 := Aside0.mk hb7
    have HN7 := Aside0.mk (Wk.Blk.new w7 28 Rw.zrq)
    have HX7 := Aside0.mk ((HX5.out.below_ HB56.out).below_ hb7)
    have HY7 := Aside0.mk (HY6.out.below_ hb7)
    have HKX7 := Aside0.mk (kRq.K_below hb7 (kRq.K_below HB56.out HKX5.out))
    have HB7 := Aside0.mk (below_then (below_then HB5.out HB5.out.size HB56.out) (below_then HB5.out HB5.out.size HB56.out).size hb7)
    clear hb7 HX5 HY6 HKX5 HB5 HB56 HB67 hs0 hs1 HC5 HB25
    have HS26 := Aside0.mk Rw.size26
    have HS22 := Aside0.mk Rw.size22
    unfold Rw.rqc
    by_cases hk : r.2.1 = 1
    · have hkb : (r.2.1 == 1) = true := by simp [hk]
      have HKD := Aside0.mk hk
      clear hk
      go_wp2_with (first
        | (refine Wk.store_all rfl rfl 28 (.tmp 12) (.tmp 52) rfl w7.heap.size (Rw.rqc 0 0 0 0 0 (.slice A7 0 c7)) rfl rfl 28 Rw.zrq HN7.out HSZ.out rfl rfl ?_; intro w8 hX hO; have HB78 := Aside0.mk (Wk.Only.below ((Below.refl _ _).alloc (Nat.le_refl _) _) hO (Nat.le_refl _)); have HX8 := Aside0.mk (HX7.out.below_ HB78.out); have HN8 := Aside0.mk (Wk.Blk.new w8 28 Rw.zrq); have HX8' := Aside0.mk (HX8.out.alloc (.cells #[.int .u16 0, .int .u16 0, .int .u64 0, .int .u64 0, .int .u32 0, .slice none 0 0] 28)); clear hX hO)
        | refine Wk.load rfl 28 (.tmp 3) rfl _ (.pointer (some ⟨W.heap.size, 0, none⟩)) rfl (Wk.run_load_blk 28 W.heap.size 0 (Rw.rqc r.1 r.2.1 r.2.2.1 r.2.2.2.1 r.2.2.2.2.1 (.slice A nd c)) _ HX8.out rfl Try.underlying28 rfl HSZ.out) ?_
        | refine Wk.load rfl 28 (.tmp 3) rfl _ (.pointer (some ⟨W.heap.size, 0, none⟩)) rfl (Wk.run_load_blk 28 W.heap.size 0 (Rw.rqc r.1 r.2.1 r.2.2.1 r.2.2.2.1 r.2.2.2.2.1 (.slice A nd c)) _ HX8'.out rfl Try.underlying28 rfl HSZ.out) ?_
        | (refine Wk.store_all rfl rfl 28 (.tmp 15) (.tmp 55) rfl w8.heap.size (Rw.rqc r.1 r.2.1 r.2.2.1 r.2.2.2.1 r.2.2.2.2.1 (.slice A nd c)) rfl rfl 28 Rw.zrq HN8.out HSZ.out rfl rfl ?_; intro w9 hX hO; have HZ9 := Aside0.mk hX; have HB89 := Aside0.mk (Wk.Only.below ((Below.refl _ _).alloc (Nat.le_refl _) _) hO (Nat.le_refl _)); have HX9 := Aside0.mk (HX8.out.below_ HB89.out); have k1 := HX9.out.at_ 1 (v := .int .u16 r.2.1) rfl; have k5 := HX9.out.at_ 5 (v := .slice A nd c) rfl; have HB79 := Aside0.mk (below_then HB78.out HB78.out.size HB89.out); clear hX hO)
        | (refine Wk.store rfl rfl 26 (.tmp 63) (.tmp 62) rfl w8.heap.size 4 (.int .u32 nd) [.int .u32 nd] rfl rfl rfl 28 _ HZ9.out HS26.out (Nat.le_of_ble_eq_true rfl) rfl ?_; intro w10 hX hO; have HZ10 := Aside0.mk (show Wk.Blk w10 w8.heap.size 28 (Rw.rqc r.1 r.2.1 r.2.2.1 r.2.2.2.1 nd (.slice A nd c)) from hX); have HO10 := Aside0.mk hO; have HB710 := Aside0.mk (Wk.Only.below HB79.out hO HB78.out.size); have HY10 := Aside0.mk (HY7.out.below_ HB710.out); have d0 := HY10.out.at_ 0 (v := .int .u16 r.1) rfl; have d1 := HY10.out.at_ 1 (v := .int .u16 r.2.1) rfl; have d2 := HY10.out.at_ 2 (v := .int .u64 r.2.2.1) rfl; have d3 := HY10.out.at_ 3 (v := .int .u64 r.2.2.2.1) rfl; have d4 := HY10.out.at_ 4 (v := .int .u32 (Rw.wl r)) rfl; have d5 := HY10.out.at_ 5 (v := .slice A5 mw c5) rfl; have e0 := HZ10.out.at_ 0 (v := .int .u16 r.1) rfl; have e1 := HZ10.out.at_ 1 (v := .int .u16 r.2.1) rfl; have e2 := HZ10.out.at_ 2 (v := .int .u64 r.2.2.1) rfl; have e3 := HZ10.out.at_ 3 (v := .int .u64 r.2.2.2.1) rfl; have e4 := HZ10.out.at_ 4 (v := .int .u32 nd) rfl; have e5 := HZ10.out.at_ 5 (v := .slice A nd c) rfl; clear hX hO k1 k5)
        | (refine Wk.store rfl rfl 22 (.tmp 64) (.const (.slice none 0 0)) rfl w8.heap.size 5 (.slice none 0 0) [.slice none 0 0] rfl rfl rfl 28 _ HZ9.out HS22.out (Nat.le_of_ble_eq_true rfl) rfl ?_; intro w10 hX hO; have HZ10 := Aside0.mk (show Wk.Blk w10 w8.heap.size 28 (Rw.rqc r.1 r.2.1 r.2.2.1 r.2.2.2.1 r.2.2.2.2.1 (.slice none 0 0)) from hX); have HO10 := Aside0.mk hO; have HB710 := Aside0.mk (Wk.Only.below HB79.out hO HB78.out.size); have HY10 := Aside0.mk (HY7.out.below_ HB710.out); have d0 := HY10.out.at_ 0 (v := .int .u16 r.1) rfl; have d1 := HY10.out.at_ 1 (v := .int .u16 r.2.1) rfl; have d2 := HY10.out.at_ 2 (v := .int .u64 r.2.2.1) rfl; have d3 := HY10.out.at_ 3 (v := .int .u64 r.2.2.2.1) rfl; have d4 := HY10.out.at_ 4 (v := .int .u32 (Rw.wl r)) rfl; have d5 := HY10.out.at_ 5 (v := .slice A5 mw c5) rfl; have e0 := HZ10.out.at_ 0 (v := .int .u16 r.1) rfl; have e1 := HZ10.out.at_ 1 (v := .int .u16 r.2.1) rfl; have e2 := HZ10.out.at_ 2 (v := .int .u64 r.2.2.1) rfl; have e3 := HZ10.out.at_ 3 (v := .int .u64 r.2.2.2.1) rfl; have e4 := HZ10.out.at_ 4 (v := .int .u32 r.2.2.2.2.1) rfl; have e5 := HZ10.out.at_ 5 (v := .slice none 0 0) rfl; clear hX hO k1 k5))
      have HKX10 : Aside0 (kRq.K w10 (r.1, r.2.1, r.2.2.1, r.2.2.2.1, Rw.wl r, Rw.wd r) (Rw.rqc r.1 r.2.1 r.2.2.1 r.2.2.2.1 (Rw.wl r) (.slice A5 mw c5))) := ⟨kRq.K_below HB710.out HKX7.out⟩
      have HB10 := Aside0.mk (below_then HB7.out HB7.out.size HB710.out)
      clear d0 d1 d2 d3 d4 d5 e0 e1 e2 e3 e4 e5
      have HKW10 : Aside0 (kRq.K w10 (r.1, r.2.1, r.2.2.1, r.2.2.2.1, Rw.wl r, Rw.wd r) (Rw.rqc r.1 r.2.1 r.2.2.1 r.2.2.2.1 nd (.slice A nd c))) := ⟨Rw.want_yes HKD.out HND.out (kRq.K_below HB10.out HK.out)⟩
      refine (samerq_.calls HKX10.out HKW10.out).mono ?_
      rintro e w11 ⟨rfl, hb11⟩
      go_wp2_with fail
      go_ret
      exact ⟨rfl, below_then HB10.out HB10.out.size hb11⟩
    · have hkb : (r.2.1 == 1) = false := by simp [hk]
      have HKD := Aside0.mk hk
      clear hk
      go_wp2_with (first
        | (refine Wk.store_all rfl rfl 28 (.tmp 12) (.tmp 52) rfl w7.heap.size (Rw.rqc 0 0 0 0 0 (.slice A7 0 c7)) rfl rfl 28 Rw.zrq HN7.out HSZ.out rfl rfl ?_; intro w8 hX hO; have HB78 := Aside0.mk (Wk.Only.below ((Below.refl _ _).alloc (Nat.le_refl _) _) hO (Nat.le_refl _)); have HX8 := Aside0.mk (HX7.out.below_ HB78.out); have HN8 := Aside0.mk (Wk.Blk.new w8 28 Rw.zrq); have HX8' := Aside0.mk (HX8.out.alloc (.cells #[.int .u16 0, .int .u16 0, .int .u64 0, .int .u64 0, .int .u32 0, .slice none 0 0] 28)); clear hX hO)
        | refine Wk.load rfl 28 (.tmp 3) rfl _ (.pointer (some ⟨W.heap.size, 0, none⟩)) rfl (Wk.run_load_blk 28 W.heap.size 0 (Rw.rqc r.1 r.2.1 r.2.2.1 r.2.2.2.1 r.2.2.2.2.1 (.slice A nd c)) _ HX8.out rfl Try.underlying28 rfl HSZ.out) ?_
        | refine Wk.load rfl 28 (.tmp 3) rfl _ (.pointer (some ⟨W.heap.size, 0, none⟩)) rfl (Wk.run_load_blk 28 W.heap.size 0 (Rw.rqc r.1 r.2.1 r.2.2.1 r.2.2.2.1 r.2.2.2.2.1 (.slice A nd c)) _ HX8'.out rfl Try.underlying28 rfl HSZ.out) ?_
        | (refine Wk.store_all rfl rfl 28 (.tmp 15) (.tmp 55) rfl w8.heap.size (Rw.rqc r.1 r.2.1 r.2.2.1 r.2.2.2.1 r.2.2.2.2.1 (.slice A nd c)) rfl rfl 28 Rw.zrq HN8.out HSZ.out rfl rfl ?_; intro w9 hX hO; have HZ9 := Aside0.mk hX; have HB89 := Aside0.mk (Wk.Only.below ((Below.refl _ _).alloc (Nat.le_refl _) _) hO (Nat.le_refl _)); have HX9 := Aside0.mk (HX8.out.below_ HB89.out); have k1 := HX9.out.at_ 1 (v := .int .u16 r.2.1) rfl; have k5 := HX9.out.at_ 5 (v := .slice A nd c) rfl; have HB79 := Aside0.mk (below_then HB78.out HB78.out.size HB89.out); clear hX hO)
        | (refine Wk.store rfl rfl 26 (.tmp 63) (.tmp 62) rfl w8.heap.size 4 (.int .u32 nd) [.int .u32 nd] rfl rfl rfl 28 _ HZ9.out HS26.out (Nat.le_of_ble_eq_true rfl) rfl ?_; intro w10 hX hO; have HZ10 := Aside0.mk (show Wk.Blk w10 w8.heap.size 28 (Rw.rqc r.1 r.2.1 r.2.2.1 r.2.2.2.1 nd (.slice A nd c)) from hX); have HO10 := Aside0.mk hO; have HB710 := Aside0.mk (Wk.Only.below HB79.out hO HB78.out.size); have HY10 := Aside0.mk (HY7.out.below_ HB710.out); have d0 := HY10.out.at_ 0 (v := .int .u16 r.1) rfl; have d1 := HY10.out.at_ 1 (v := .int .u16 r.2.1) rfl; have d2 := HY10.out.at_ 2 (v := .int .u64 r.2.2.1) rfl; have d3 := HY10.out.at_ 3 (v := .int .u64 r.2.2.2.1) rfl; have d4 := HY10.out.at_ 4 (v := .int .u32 (Rw.wl r)) rfl; have d5 := HY10.out.at_ 5 (v := .slice A5 mw c5) rfl; have e0 := HZ10.out.at_ 0 (v := .int .u16 r.1) rfl; have e1 := HZ10.out.at_ 1 (v := .int .u16 r.2.1) rfl; have e2 := HZ10.out.at_ 2 (v := .int .u64 r.2.2.1) rfl; have e3 := HZ10.out.at_ 3 (v := .int .u64 r.2.2.2.1) rfl; have e4 := HZ10.out.at_ 4 (v := .int .u32 nd) rfl; have e5 := HZ10.out.at_ 5 (v := .slice A nd c) rfl; clear hX hO k1 k5)
        | (refine Wk.store rfl rfl 22 (.tmp 64) (.const (.slice none 0 0)) rfl w8.heap.size 5 (.slice none 0 0) [.slice none 0 0] rfl rfl rfl 28 _ HZ9.out HS22.out (Nat.le_of_ble_eq_true rfl) rfl ?_; intro w10 hX hO; have HZ10 := Aside0.mk (show Wk.Blk w10 w8.heap.size 28 (Rw.rqc r.1 r.2.1 r.2.2.1 r.2.2.2.1 r.2.2.2.2.1 (.slice none 0 0)) from hX); have HO10 := Aside0.mk hO; have HB710 := Aside0.mk (Wk.Only.below HB79.out hO HB78.out.size); have HY10 := Aside0.mk (HY7.out.below_ HB710.out); have d0 := HY10.out.at_ 0 (v := .int .u16 r.1) rfl; have d1 := HY10.out.at_ 1 (v := .int .u16 r.2.1) rfl; have d2 := HY10.out.at_ 2 (v := .int .u64 r.2.2.1) rfl; have d3 := HY10.out.at_ 3 (v := .int .u64 r.2.2.2.1) rfl; have d4 := HY10.out.at_ 4 (v := .int .u32 (Rw.wl r)) rfl; have d5 := HY10.out.at_ 5 (v := .slice A5 mw c5) rfl; have e0 := HZ10.out.at_ 0 (v := .int .u16 r.1) rfl; have e1 := HZ10.out.at_ 1 (v := .int .u16 r.2.1) rfl; have e2 := HZ10.out.at_ 2 (v := .int .u64 r.2.2.1) rfl; have e3 := HZ10.out.at_ 3 (v := .int .u64 r.2.2.2.1) rfl; have e4 := HZ10.out.at_ 4 (v := .int .u32 r.2.2.2.2.1) rfl; have e5 := HZ10.out.at_ 5 (v := .slice none 0 0) rfl; clear hX hO k1 k5))
      have HKX10 : Aside0 (kRq.K w10 (r.1, r.2.1, r.2.2.1, r.2.2.2.1, Rw.wl r, Rw.wd r) (Rw.rqc r.1 r.2.1 r.2.2.1 r.2.2.2.1 (Rw.wl r) (.slice A5 mw c5))) := ⟨kRq.K_below HB710.out HKX7.out⟩
      have HB10 := Aside0.mk (below_then HB7.out HB7.out.size HB710.out)
      clear d0 d1 d2 d3 d4 d5 e0 e1 e2 e3 e4 e5
      have HKW10 : Aside0 (kRq.K w10 (r.1, r.2.1, r.2.2.1, r.2.2.2.1, Rw.wl r, Rw.wd r) (Rw.rqc r.1 r.2.1 r.2.2.1 r.2.2.2.1 r.2.2.2.2.1 (.slice none 0 0))) := ⟨Rw.want_no HKD.out w10⟩
      refine (samerq_.calls HKX10.out HKW10.out).mono ?_
      rintro e w11 ⟨rfl, hb11⟩
      go_wp2_with fail
      go_ret
      exact ⟨rfl, below_then HB10.out HB10.out.size hb11⟩
  · skip
    obtain ⟨p, hp⟩ : ∃ p, (x2 % (nb : Int)).toNat = p := ⟨_, rfl⟩
    have hpb : p < nb := by have := HPM.out; omega
    rw [hp]
    clear hpc1 hpc2
    have hfr : Calls Try.prog 11 #[.slice A2 p c2] w6 fun e w' => ∃ A c, e = .returned (.tuple #[.agg (Rw.rqc 0 0 0 0 0 (.slice A 0 c)).toArray, .int .i64 0, .int .u16 80]) ∧ Below w6.heap.size w6 w' := by
      have hl : ((Rw.bs r).take p).length = p := by rw [List.length_take, HNB.out]; omega
      have hC : Kd.C (Kd.int .u8) w6 A2 ((Rw.bs r).take p).length ((Rw.bs r).take p) := Kd.C_take (by rw [HNB.out]; exact Kd.C_below HC5.out HB56.out) (by rw [HNB.out]; omega)
      have := next_.calls (w := w6) (A := A2) (c := c2) (l := (Rw.bs r).take p) hC (by rw [hl]; have := HL2.out; omega) (by rw [hl]; have := HBL.out; omega) (fun x hx => Rw.bs_bytes HWF.out x (List.mem_of_mem_take hx)) (Rw.next_front r HWF.out HDN.out p (by rw [HNB.out]; omega))
      rw [hl] at this
      refine this.mono ?_
      rintro e w' ⟨A, c, rfl, _, hb⟩
      exact ⟨A, c, rfl, hb⟩
    refine hfr.mono ?_
    clear hfr
    rintro e w7 ⟨A7, c7, rfl, hb7⟩
    have HB67 := Aside0.mk hb7
    have HN7 := Aside0.mk (Wk.Blk.new w7 28 Rw.zrq)
    have HX7 := Aside0.mk ((HX5.out.below_ HB56.out).below_ hb7)
    have HY7 := Aside0.mk (HY6.out.below_ hb7)
    have HKX7 := Aside0.mk (kRq.K_below hb7 (kRq.K_below HB56.out HKX5.out))
    have HB7 := Aside0.mk (below_then (below_then HB5.out HB5.out.size HB56.out) (below_then HB5.out HB5.out.size HB56.out).size hb7)
    clear hb7 HX5 HY6 HKX5 HB5 HB56 HB67 hs0 hs1 HC5 HB25
    have HS26 := Aside0.mk Rw.size26
    have HS22 := Aside0.mk Rw.size22
    unfold Rw.rqc
    by_cases hk : r.2.1 = 1
    · have hkb : (r.2.1 == 1) = true := by simp [hk]
      have HKD := Aside0.mk hk
      clear hk
      go_wp2_with (first
        | (refine Wk.store_all rfl rfl 28 (.tmp 12) (.tmp 52) rfl w7.heap.size (Rw.rqc 0 0 0 0 0 (.slice A7 0 c7)) rfl rfl 28 Rw.zrq HN7.out HSZ.out rfl rfl ?_; intro w8 hX hO; have HB78 := Aside0.mk (Wk.Only.below ((Below.refl _ _).alloc (Nat.le_refl _) _) hO (Nat.le_refl _)); have HX8 := Aside0.mk (HX7.out.below_ HB78.out); have HN8 := Aside0.mk (Wk.Blk.new w8 28 Rw.zrq); have HX8' := Aside0.mk (HX8.out.alloc (.cells #[.int .u16 0, .int .u16 0, .int .u64 0, .int .u64 0, .int .u32 0, .slice none 0 0] 28)); clear hX hO)
        | refine Wk.load rfl 28 (.tmp 3) rfl _ (.pointer (some ⟨W.heap.size, 0, none⟩)) rfl (Wk.run_load_blk 28 W.heap.size 0 (Rw.rqc r.1 r.2.1 r.2.2.1 r.2.2.2.1 r.2.2.2.2.1 (.slice A nd c)) _ HX8.out rfl Try.underlying28 rfl HSZ.out) ?_
        | refine Wk.load rfl 28 (.tmp 3) rfl _ (.pointer (some ⟨W.heap.size, 0, none⟩)) rfl (Wk.run_load_blk 28 W.heap.size 0 (Rw.rqc r.1 r.2.1 r.2.2.1 r.2.2.2.1 r.2.2.2.2.1 (.slice A nd c)) _ HX8'.out rfl Try.underlying28 rfl HSZ.out) ?_
        | (refine Wk.store_all rfl rfl 28 (.tmp 15) (.tmp 55) rfl w8.heap.size (Rw.rqc r.1 r.2.1 r.2.2.1 r.2.2.2.1 r.2.2.2.2.1 (.slice A nd c)) rfl rfl 28 Rw.zrq HN8.out HSZ.out rfl rfl ?_; intro w9 hX hO; have HZ9 := Aside0.mk hX; have HB89 := Aside0.mk (Wk.Only.below ((Below.refl _ _).alloc (Nat.le_refl _) _) hO (Nat.le_refl _)); have HX9 := Aside0.mk (HX8.out.below_ HB89.out); have k1 := HX9.out.at_ 1 (v := .int .u16 r.2.1) rfl; have k5 := HX9.out.at_ 5 (v := .slice A nd c) rfl; have HB79 := Aside0.mk (below_then HB78.out HB78.out.size HB89.out); clear hX hO)
        | (refine Wk.store rfl rfl 26 (.tmp 63) (.tmp 62) rfl w8.heap.size 4 (.int .u32 nd) [.int .u32 nd] rfl rfl rfl 28 _ HZ9.out HS26.out (Nat.le_of_ble_eq_true rfl) rfl ?_; intro w10 hX hO; have HZ10 := Aside0.mk (show Wk.Blk w10 w8.heap.size 28 (Rw.rqc r.1 r.2.1 r.2.2.1 r.2.2.2.1 nd (.slice A nd c)) from hX); have HO10 := Aside0.mk hO; have HB710 := Aside0.mk (Wk.Only.below HB79.out hO HB78.out.size); have HY10 := Aside0.mk (HY7.out.below_ HB710.out); have d0 := HY10.out.at_ 0 (v := .int .u16 r.1) rfl; have d1 := HY10.out.at_ 1 (v := .int .u16 r.2.1) rfl; have d2 := HY10.out.at_ 2 (v := .int .u64 r.2.2.1) rfl; have d3 := HY10.out.at_ 3 (v := .int .u64 r.2.2.2.1) rfl; have d4 := HY10.out.at_ 4 (v := .int .u32 (Rw.wl r)) rfl; have d5 := HY10.out.at_ 5 (v := .slice A5 mw c5) rfl; have e0 := HZ10.out.at_ 0 (v := .int .u16 r.1) rfl; have e1 := HZ10.out.at_ 1 (v := .int .u16 r.2.1) rfl; have e2 := HZ10.out.at_ 2 (v := .int .u64 r.2.2.1) rfl; have e3 := HZ10.out.at_ 3 (v := .int .u64 r.2.2.2.1) rfl; have e4 := HZ10.out.at_ 4 (v := .int .u32 nd) rfl; have e5 := HZ10.out.at_ 5 (v := .slice A nd c) rfl; clear hX hO k1 k5)
        | (refine Wk.store rfl rfl 22 (.tmp 64) (.const (.slice none 0 0)) rfl w8.heap.size 5 (.slice none 0 0) [.slice none 0 0] rfl rfl rfl 28 _ HZ9.out HS22.out (Nat.le_of_ble_eq_true rfl) rfl ?_; intro w10 hX hO; have HZ10 := Aside0.mk (show Wk.Blk w10 w8.heap.size 28 (Rw.rqc r.1 r.2.1 r.2.2.1 r.2.2.2.1 r.2.2.2.2.1 (.slice none 0 0)) from hX); have HO10 := Aside0.mk hO; have HB710 := Aside0.mk (Wk.Only.below HB79.out hO HB78.out.size); have HY10 := Aside0.mk (HY7.out.below_ HB710.out); have d0 := HY10.out.at_ 0 (v := .int .u16 r.1) rfl; have d1 := HY10.out.at_ 1 (v := .int .u16 r.2.1) rfl; have d2 := HY10.out.at_ 2 (v := .int .u64 r.2.2.1) rfl; have d3 := HY10.out.at_ 3 (v := .int .u64 r.2.2.2.1) rfl; have d4 := HY10.out.at_ 4 (v := .int .u32 (Rw.wl r)) rfl; have d5 := HY10.out.at_ 5 (v := .slice A5 mw c5) rfl; have e0 := HZ10.out.at_ 0 (v := .int .u16 r.1) rfl; have e1 := HZ10.out.at_ 1 (v := .int .u16 r.2.1) rfl; have e2 := HZ10.out.at_ 2 (v := .int .u64 r.2.2.1) rfl; have e3 := HZ10.out.at_ 3 (v := .int .u64 r.2.2.2.1) rfl; have e4 := HZ10.out.at_ 4 (v := .int .u32 r.2.2.2.2.1) rfl; have e5 := HZ10.out.at_ 5 (v := .slice none 0 0) rfl; clear hX hO k1 k5))
      have HKX10 : Aside0 (kRq.K w10 (r.1, r.2.1, r.2.2.1, r.2.2.2.1, Rw.wl r, Rw.wd r) (Rw.rqc r.1 r.2.1 r.2.2.1 r.2.2.2.1 (Rw.wl r) (.slice A5 mw c5))) := ⟨kRq.K_below HB710.out HKX7.out⟩
      have HB10 := Aside0.mk (below_then HB7.out HB7.out.size HB710.out)
      clear d0 d1 d2 d3 d4 d5 e0 e1 e2 e3 e4 e5
      have HKW10 : Aside0 (kRq.K w10 (r.1, r.2.1, r.2.2.1, r.2.2.2.1, Rw.wl r, Rw.wd r) (Rw.rqc r.1 r.2.1 r.2.2.1 r.2.2.2.1 nd (.slice A nd c))) := ⟨Rw.want_yes HKD.out HND.out (kRq.K_below HB10.out HK.out)⟩
      refine (samerq_.calls HKX10.out HKW10.out).mono ?_
      rintro e w11 ⟨rfl, hb11⟩
      go_wp2_with fail
      go_ret
      exact ⟨rfl, below_then HB10.out HB10.out.size hb11⟩
    · have hkb : (r.2.1 == 1) = false := by simp [hk]
      have HKD := Aside0.mk hk
      clear hk
      go_wp2_with (first
        | (refine Wk.store_all rfl rfl 28 (.tmp 12) (.tmp 52) rfl w7.heap.size (Rw.rqc 0 0 0 0 0 (.slice A7 0 c7)) rfl rfl 28 Rw.zrq HN7.out HSZ.out rfl rfl ?_; intro w8 hX hO; have HB78 := Aside0.mk (Wk.Only.below ((Below.refl _ _).alloc (Nat.le_refl _) _) hO (Nat.le_refl _)); have HX8 := Aside0.mk (HX7.out.below_ HB78.out); have HN8 := Aside0.mk (Wk.Blk.new w8 28 Rw.zrq); have HX8' := Aside0.mk (HX8.out.alloc (.cells #[.int .u16 0, .int .u16 0, .int .u64 0, .int .u64 0, .int .u32 0, .slice none 0 0] 28)); clear hX hO)
        | refine Wk.load rfl 28 (.tmp 3) rfl _ (.pointer (some ⟨W.heap.size, 0, none⟩)) rfl (Wk.run_load_blk 28 W.heap.size 0 (Rw.rqc r.1 r.2.1 r.2.2.1 r.2.2.2.1 r.2.2.2.2.1 (.slice A nd c)) _ HX8.out rfl Try.underlying28 rfl HSZ.out) ?_
        | refine Wk.load rfl 28 (.tmp 3) rfl _ (.pointer (some ⟨W.heap.size, 0, none⟩)) rfl (Wk.run_load_blk 28 W.heap.size 0 (Rw.rqc r.1 r.2.1 r.2.2.1 r.2.2.2.1 r.2.2.2.2.1 (.slice A nd c)) _ HX8'.out rfl Try.underlying28 rfl HSZ.out) ?_
        | (refine Wk.store_all rfl rfl 28 (.tmp 15) (.tmp 55) rfl w8.heap.size (Rw.rqc r.1 r.2.1 r.2.2.1 r.2.2.2.1 r.2.2.2.2.1 (.slice A nd c)) rfl rfl 28 Rw.zrq HN8.out HSZ.out rfl rfl ?_; intro w9 hX hO; have HZ9 := Aside0.mk hX; have HB89 := Aside0.mk (Wk.Only.below ((Below.refl _ _).alloc (Nat.le_refl _) _) hO (Nat.le_refl _)); have HX9 := Aside0.mk (HX8.out.below_ HB89.out); have k1 := HX9.out.at_ 1 (v := .int .u16 r.2.1) rfl; have k5 := HX9.out.at_ 5 (v := .slice A nd c) rfl; have HB79 := Aside0.mk (below_then HB78.out HB78.out.size HB89.out); clear hX hO)
        | (refine Wk.store rfl rfl 26 (.tmp 63) (.tmp 62) rfl w8.heap.size 4 (.int .u32 nd) [.int .u32 nd] rfl rfl rfl 28 _ HZ9.out HS26.out (Nat.le_of_ble_eq_true rfl) rfl ?_; intro w10 hX hO; have HZ10 := Aside0.mk (show Wk.Blk w10 w8.heap.size 28 (Rw.rqc r.1 r.2.1 r.2.2.1 r.2.2.2.1 nd (.slice A nd c)) from hX); have HO10 := Aside0.mk hO; have HB710 := Aside0.mk (Wk.Only.below HB79.out hO HB78.out.size); have HY10 := Aside0.mk (HY7.out.below_ HB710.out); have d0 := HY10.out.at_ 0 (v := .int .u16 r.1) rfl; have d1 := HY10.out.at_ 1 (v := .int .u16 r.2.1) rfl; have d2 := HY10.out.at_ 2 (v := .int .u64 r.2.2.1) rfl; have d3 := HY10.out.at_ 3 (v := .int .u64 r.2.2.2.1) rfl; have d4 := HY10.out.at_ 4 (v := .int .u32 (Rw.wl r)) rfl; have d5 := HY10.out.at_ 5 (v := .slice A5 mw c5) rfl; have e0 := HZ10.out.at_ 0 (v := .int .u16 r.1) rfl; have e1 := HZ10.out.at_ 1 (v := .int .u16 r.2.1) rfl; have e2 := HZ10.out.at_ 2 (v := .int .u64 r.2.2.1) rfl; have e3 := HZ10.out.at_ 3 (v := .int .u64 r.2.2.2.1) rfl; have e4 := HZ10.out.at_ 4 (v := .int .u32 nd) rfl; have e5 := HZ10.out.at_ 5 (v := .slice A nd c) rfl; clear hX hO k1 k5)
        | (refine Wk.store rfl rfl 22 (.tmp 64) (.const (.slice none 0 0)) rfl w8.heap.size 5 (.slice none 0 0) [.slice none 0 0] rfl rfl rfl 28 _ HZ9.out HS22.out (Nat.le_of_ble_eq_true rfl) rfl ?_; intro w10 hX hO; have HZ10 := Aside0.mk (show Wk.Blk w10 w8.heap.size 28 (Rw.rqc r.1 r.2.1 r.2.2.1 r.2.2.2.1 r.2.2.2.2.1 (.slice none 0 0)) from hX); have HO10 := Aside0.mk hO; have HB710 := Aside0.mk (Wk.Only.below HB79.out hO HB78.out.size); have HY10 := Aside0.mk (HY7.out.below_ HB710.out); have d0 := HY10.out.at_ 0 (v := .int .u16 r.1) rfl; have d1 := HY10.out.at_ 1 (v := .int .u16 r.2.1) rfl; have d2 := HY10.out.at_ 2 (v := .int .u64 r.2.2.1) rfl; have d3 := HY10.out.at_ 3 (v := .int .u64 r.2.2.2.1) rfl; have d4 := HY10.out.at_ 4 (v := .int .u32 (Rw.wl r)) rfl; have d5 := HY10.out.at_ 5 (v := .slice A5 mw c5) rfl; have e0 := HZ10.out.at_ 0 (v := .int .u16 r.1) rfl; have e1 := HZ10.out.at_ 1 (v := .int .u16 r.2.1) rfl; have e2 := HZ10.out.at_ 2 (v := .int .u64 r.2.2.1) rfl; have e3 := HZ10.out.at_ 3 (v := .int .u64 r.2.2.2.1) rfl; have e4 := HZ10.out.at_ 4 (v := .int .u32 r.2.2.2.2.1) rfl; have e5 := HZ10.out.at_ 5 (v := .slice none 0 0) rfl; clear hX hO k1 k5))
      have HKX10 : Aside0 (kRq.K w10 (r.1, r.2.1, r.2.2.1, r.2.2.2.1, Rw.wl r, Rw.wd r) (Rw.rqc r.1 r.2.1 r.2.2.1 r.2.2.2.1 (Rw.wl r) (.slice A5 mw c5))) := ⟨kRq.K_below HB710.out HKX7.out⟩
      have HB10 := Aside0.mk (below_then HB7.out HB7.out.size HB710.out)
      clear d0 d1 d2 d3 d4 d5 e0 e1 e2 e3 e4 e5
      have HKW10 : Aside0 (kRq.K w10 (r.1, r.2.1, r.2.2.1, r.2.2.2.1, Rw.wl r, Rw.wd r) (Rw.rqc r.1 r.2.1 r.2.2.1 r.2.2.2.1 r.2.2.2.2.1 (.slice none 0 0))) := ⟨Rw.want_no HKD.out w10⟩
      refine (samerq_.calls HKX10.out HKW10.out).mono ?_
      rintro e w11 ⟨rfl, hb11⟩
      go_wp2_with fail
      go_ret
      exact ⟨rfl, below_then HB10.out HB10.out.size hb11⟩
#print axioms reqBack_.calls
end Go.Proofs.Ytemhlinodccokaa
