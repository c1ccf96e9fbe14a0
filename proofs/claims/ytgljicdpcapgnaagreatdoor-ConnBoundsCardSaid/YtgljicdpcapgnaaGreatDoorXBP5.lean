/- What the law's proof stands on, part 5: ReqN, ReqR, WireM3, ReqX, ReqW, ConnW, ConnA, ConnB, RefV, RefQ, RefPk, RefG, RefA, ConnC, RefB, RefH, ConnD, ConnE, PassF, PassH, PassS, PassU, PassV (laid together by wip/pack.py). -/
import Derived.Test.YtgljicdpcapgnaaGreatDoorXBP4
import Derived.Laws.ResultCell
set_option linter.unusedVariables false
set_option linter.unusedSimpArgs false
set_option maxRecDepth 100000
set_option maxHeartbeats 8000000
namespace Go.Proofs.YtgljicdpcapgnaaGreatDoor
open Go.RowKit Go.Proofs.YtgljicdpcapgnaaGreatDoorW.PrintWords Go.Proofs.YtgljicdpcapgnaaGreatDoorW.PrintLast Go.Proofs.YtgljicdpcapgnaaGreatDoorW.PrintMore
def Wi.rqc (x1 x2 x3 x4 x5 : Int) (v : Value) : List Value := [.int .u16 x1, .int .u16 x2, .int .u64 x3, .int .u64 x4, .int .u32 x5, v]
theorem Wi.six_cells {w : World} {base : Nat} {v : Value} {x0 x1 x2 x3 x4 x5 : Int} (h : Kd.R (Kd.int .u64) 45 w base (fun _ => True) v [x0, x1, x2, x3, x4, x5]) : ∃ g c, v = .slice (some ⟨g, 0, none⟩) 6 c ∧ base ≤ g ∧ g < w.heap.size ∧ 6 ≤ c ∧
    w.cell? ⟨g, 0, none⟩ = some (.int .u64 x0) ∧ w.cell? ⟨g, 1, none⟩ = some (.int .u64 x1) ∧ w.cell? ⟨g, 2, none⟩ = some (.int .u64 x2) ∧ w.cell? ⟨g, 3, none⟩ = some (.int .u64 x3) ∧ w.cell? ⟨g, 4, none⟩ = some (.int .u64 x4) ∧ w.cell? ⟨g, 5, none⟩ = some (.int .u64 x5) := by
  have ho := Kd.own_of_R h
  obtain ⟨g, c, rfl, hb, hl⟩ := ho.form (by simp)
  have hc : ∀ j u, ([.int .u64 x0, .int .u64 x1, .int .u64 x2, .int .u64 x3, .int .u64 x4, .int .u64 x5] : List Value)[j]? = some u → w.cell? ⟨g, j, none⟩ = some u := fun j u hu => by
    have := ho.cells (g := g) rfl j u hu
    rwa [add_plain] at this
  exact ⟨g, c, rfl, hb, hl, own_le ho, hc 0 _ rfl, hc 1 _ rfl, hc 2 _ rfl, hc 3 _ rfl, hc 4 _ rfl, hc 5 _ rfl⟩
theorem Wi.infoByte1 : (Tryz.prog.info? 5).map (·.size) = some 1 := by kernel_rfl
theorem Wi.infoSl : (Tryz.prog.info? 35).map (·.size) = some 1 := by kernel_rfl
theorem Wi.info28 : (Tryz.prog.info? 67).map (·.size) = some 6 := by kernel_rfl
theorem req_Next.calls (A0 : Option Addr) (c0 : Nat) (l0 : List Int) (r1 : Int) (r2 : Int) (r3 : Int) (r4 : Int) (r5 : Int) (r6 : List Int) (r7 : Int) (r8 : Int) (w : World) (hr0 : Kd.C (Kd.int .u8) w A0 l0.length l0) (hc0 : l0.length ≤ c0) (h : req_Next.f l0 = some (r1, r2, r3, r4, r5, r6, r7, r8)) :
  Calls Tryz.prog 75 #[.slice A0 l0.length c0] w fun e w' => ∃ v5_ : Value, e = .returned (.tuple #[.agg #[.int .u16 r1, .int .u16 r2, .int .u64 r3, .int .u64 r4, .int .u32 r5, v5_], .int .i64 r7, .int .u16 r8]) ∧ Kd.R (Kd.int .u8) 5 w' w.heap.size (fun _ => True) v5_ r6 ∧ Below w.heap.size w w' := by
 unfold req_Next.f at h
 obtain ⟨hlen, hby⟩ : l0.length ≤ 1099511627776 ∧ Wi.Bytes l0 := by
  by_cases hc : l0.length ≤ 1099511627776 ∧ ∀ x ∈ l0, 0 ≤ x ∧ x ≤ 255
  ·exact hc
  ·rw [if_neg hc] at h; cases h
 rw [if_pos ⟨hlen, hby⟩] at h
 have HRES := az (Option.some.inj h)
 have HR0 := az hr0
 have HBY := az hby
 clear h hr0 hby
 obtain ⟨N, HN⟩ : ∃ N, Aside0 (l0.length = N) := ⟨_, ⟨rfl⟩⟩
 rw [HN.out] at hlen hc0 ⊢
 go_enter Tryz.func75, Tryz.ntmps75
 go_wp2_with fail
 generalize hWq : World.alloc w _ = W0
 have HB0 : Aside0 (Below w.heap.size w W0) := ⟨by rw [← hWq]; exact below_alloc (Below.refl _ _) _⟩
 have HZ0 : Aside0 (W0.heap[w.heap.size]? = some (.cells #[.int .u16 0, .int .u16 0, .int .u64 0, .int .u64 0, .int .u32 0, .slice none 0 0] 67 (0, 0))) := ⟨by rw [← hWq]; exact heap_alloc_new w _⟩
 clear hWq
 obtain ⟨m, hmin, hm28, HMN⟩ : ∃ m : Nat, (if 28 < (N : Int) then 28 else (N : Int)) = (m : Int) ∧ m ≤ 28 ∧ Aside0 (m ≤ N ∧ (N < 28 ∨ m = 28)) := by
  by_cases h : 28 < (N : Int)
  ·exact ⟨28, by rw [if_pos h]; rfl, by omega, ⟨by omega⟩⟩
  ·exact ⟨N, by rw [if_neg h], by omega, ⟨by omega⟩⟩
 have hmc : m ≤ c0 := by have := HMN.out; omega
 obtain ⟨ns, ok, HTK⟩ : ∃ (ns : List Int) (ok : Bool), Aside0 (wire_Take.f (l0.take m) [4, 2, 2, 8, 8, 4] = some (ns, [], ok) ∧ (ok = decide (28 ≤ N)) ∧ (28 ≤ N → ns = [Wi.rq0 l0, Wi.rq1 l0, Wi.rq2 l0, Wi.rq3 l0, Wi.rq4 l0, Wi.rq5 l0])) := by
  have hm := HMN.out
  have hN := HN.out
  by_cases h : N < 28
  ·refine ⟨[], false, ⟨?_, by simp; omega, fun h2 => absurd h2 (by omega)⟩⟩
   unfold wire_Take.f
   rw [if_pos ⟨by rw [List.length_take]; omega, by simp, Wi.Bytes.take HBY.out m⟩, Wi.takes6, if_pos (by rw [List.length_take]; omega)]
  ·obtain rfl : m = 28 := by omega
   obtain ⟨e0, e1, e2, e3, e4, e5⟩ := Wi.rq_take l0
   refine ⟨_, true, ⟨?_, by simp; omega, fun _ => rfl⟩⟩
   unfold wire_Take.f
   rw [if_pos ⟨by rw [List.length_take]; omega, by simp, Wi.Bytes.take HBY.out 28⟩, Wi.takes6, if_neg (by rw [List.length_take]; omega), e0, e1, e2, e3, e4, e5, List.drop_of_length_le (by rw [List.length_take]; omega)]
 have HCT : Aside0 (Kd.C (Kd.int .u8) w A0 m (l0.take m) ∧ (l0.take m).length = m) := ⟨by
  have hl : (l0.take m).length = m := by rw [List.length_take, HN.out]; have := HMN.out; omega
  refine ⟨?_, hl⟩
  have := Kd.C_take (m := m) HR0.out (by rw [HN.out]; exact HMN.out.1)
  rwa [hl] at this⟩
 refine wp_region_noPanic ?_
 refine Rg.s1 14 (fun w' => Below W0.heap.size W0 w') [13] (Below.refl _ _).drew #[false, false, false, false, false, false, false, false, false, false, false, false, false, false] (fun hHeld => ?_)
 refine Rg.p1 0 (.some 11) ?_
 refine Rg.p1 1 (.some 12) ?_
 refine Rg.p1 2 (.some 13) ?_
 refine Rg.p1 3 (.some 14) ?_
 refine Rg.p1 4 (.some 15) ?_
 refine Rg.o1 5 (.some 16) (fun K hK => ?_)
 refine call_ 94 #[] (by rfl) rfl (by go_simp) ?_
 refine (PBase.req_form.calls [4, 2, 2, 8, 8, 4] _ rfl).mono ?_
 rintro e w1 ⟨vf, rfl, rf, bf⟩
 obtain ⟨Af, cf, rfl⟩ := Kd.R_slice rf
 have HF := az rf
 have HQ := az (below_then hHeld hHeld.size bf)
 clear rf bf
 refine ⟨_, rfl, ?_⟩
 refine hK.out _ _ HQ.out (fun hHeld => ?_)
 clear hK K
 refine Rg.n1 ?_
 refine Rg.o1 6 (.some 17) (fun K hK => ?_)
 refine call_ 70 #[.slice A0 m c0, .slice Af 6 cf] (by rfl) rfl (by go_simp) ?_
 have HTC := wire_Take.calls A0 c0 (l0.take m) Af cf [4, 2, 2, 8, 8, 4] ns [] ok w1 (by rw [HCT.out.2]; exact Kd.C_below HCT.out.1 (below_then HB0.out HB0.out.size hHeld)) (by rw [HCT.out.2]; exact hmc) (Kd.R_reads' HF.out).2.2 (Kd.R_reads' HF.out).2.1 HTK.out.1
 rw [HCT.out.2] at HTC
 refine HTC.mono ?_
 rintro e w2 ⟨v0, v1, rfl, rv0, rv1, bf⟩
 have HV := az rv0
 have HQ2 := az (below_then hHeld hHeld.size bf)
 clear rv0 rv1 bf HTC
 refine ⟨_, rfl, ?_⟩
 refine hK.out _ _ HQ2.out (fun hHeld => ?_)
 clear hK K
 refine Rg.n1 ?_
 refine Rg.p1 7 (.some 10) ?_
 refine Rg.p1 8 (.some 18) ?_
 refine Rg.p1 9 (.some 19) ?_
 refine Rg.p1 10 (.some 20) ?_
 refine Rg.p1 11 (.some 5) ?_
 refine Rg.p1 12 (.some 6) ?_
 refine Rg.p1 13 (.some 7) ?_
 refine Rg.d1 ?_
 have HB2 : Aside0 (Below w.heap.size w w2) := ⟨below_then HB0.out HB0.out.size hHeld⟩
 have HZ2 : Aside0 (Wk.Blk w2 w.heap.size 67 (Wi.rqc 0 0 0 0 0 (.slice none 0 0))) := ⟨⟨(hHeld.block _ (Array.getElem?_eq_some_iff.1 HZ0.out).1).trans HZ0.out⟩⟩
 have HSZ := az Wi.info28
 clear hHeld
 refine NoPanic.normal ?_
 cases ok
 ·have HR80 : Aside0 (Wi.nextOf l0 = (0, 0, 0, 0, 0, [], 0, 80)) := ⟨by
   have h1 : ¬ 28 ≤ N := of_decide_eq_false HTK.out.2.1.symm
   unfold Wi.nextOf
   rw [if_pos (by rw [HN.out]; omega)]⟩
  rw [HRES.out] at HR80
  obtain ⟨rfl, rfl, rfl, rfl, rfl, rfl, rfl, rfl⟩ : r1 = 0 ∧ r2 = 0 ∧ r3 = 0 ∧ r4 = 0 ∧ r5 = 0 ∧ r6 = [] ∧ r7 = 0 ∧ r8 = 80 := by simpa using HR80.out
  clear HTK HRES HR80 HV
  go_wp2_with (refine Wk.store_all rfl rfl 67 (.tmp 2) (.tmp 24) rfl w.heap.size (Wi.rqc 0 0 0 0 0 (.slice none 0 0)) rfl rfl 67 _ HZ2.out HSZ.out rfl rfl ?_; intro w3 hX hO; have HX := az hX; have HO := az hO; clear hX hO)
  refine bodyPost_ret (Wk.res_ctt rfl _ w.heap.size 67 _ _ rfl HX.out Tryz.underlying67 rfl HSZ.out) rfl ?_
  exact ⟨_, rfl, Kd.R_nil _ _ _ _ _, Wk.Only.below HB2.out HO.out (Nat.le_refl _)⟩
 ·obtain ⟨x0, x1, x2, x3, x4, x5, hns, HX⟩ : ∃ x0 x1 x2 x3 x4 x5, ns = [x0, x1, x2, x3, x4, x5] ∧ Aside0 (Wi.rq0 l0 = x0 ∧ Wi.rq1 l0 = x1 ∧ Wi.rq2 l0 = x2 ∧ Wi.rq3 l0 = x3 ∧ Wi.rq4 l0 = x4 ∧ Wi.rq5 l0 = x5) := ⟨_, _, _, _, _, _, HTK.out.2.2 (of_decide_eq_true HTK.out.2.1.symm), ⟨rfl, rfl, rfl, rfl, rfl, rfl⟩⟩
  have h28 : 28 ≤ N := of_decide_eq_true HTK.out.2.1.symm
  subst hns
  obtain ⟨g, cg, rfl, hgb, hgl, hgc, c0', c1', c2', c3', c4', c5'⟩ := Wi.six_cells HV.out
  have C1 := az c1'
  have C2 := az c2'
  have C3 := az c3'
  have C4 := az c4'
  have C5 := az c5'
  clear c1' c2' c3' c4' c5' HV HTK
  have hbn := Wi.rq_bnd l0 HBY.out
  obtain ⟨e0, e1, e2, e3, e4, e5⟩ := HX.out
  rw [e0, e1, e2, e3, e4, e5] at hbn
  have HXE : Aside0 (Wi.nextOf l0 = if x0 ≠ 627086611 then (0, 0, 0, 0, 0, [], 0, 81)
   else if x2 = 1 then if x5 > 65536 then (0, 0, 0, 0, 0, [], 0, 82) else if 28 + x5 > N then (0, 0, 0, 0, 0, [], 0, 80) else (x1, x2, x3, x4, x5, (l0.drop 28).take x5.toNat, 28 + x5, 0)
   else (x1, x2, x3, x4, x5, [], 28, 0)) := ⟨by unfold Wi.nextOf; rw [if_neg (by rw [HN.out]; omega), e0, e1, e2, e3, e4, e5, HN.out]⟩
  clear e0 e1 e2 e3 e4 e5 HX
  obtain ⟨⟨b00, b01⟩, ⟨b10, b11⟩, ⟨b20, b21⟩, ⟨b30, b31⟩, ⟨b40, b41⟩, ⟨b50, b51⟩⟩ := hbn
  by_cases hx0 : x0 = 627086611
  ·subst hx0
   go_wp2_with fail
   have u1 := IntWalk.u16_in x1 (by omega)
   have u2 := IntWalk.u16_in x2 (by omega)
   have u5 := IntWalk.u32_in x5 (by omega)
   refine wp_region_noPanic ?_
   refine Rg.s1 21 (fun w' => Below w2.heap.size w2 w') [20] (Below.refl _ _).drew #[false, false, false, false, false, false, false, false, false, false, false, false, false, false, false, false, false, false, false, false, false] (fun hHeld => ?_)
   refine Rg.p1 0 (.some 31) ?_
   refine Rg.p1 1 (.some 32) ?_
   refine Rg.t1 2 (.some 33) hHeld ?_ (hy := by intro w' hS'; (have c1 := (hS'.cell (p := ⟨g, 1, none⟩) hgl).trans C1.out; go_simp); first | done | with_reducible rfl)
   refine Rg.p1 3 (.some 34) ?_
   refine Rg.p1 4 (.some 35) ?_
   refine Rg.p1 5 (.some 36) ?_
   refine Rg.t1 6 (.some 37) hHeld ?_ (hy := by intro w' hS'; (have c1 := (hS'.cell (p := ⟨g, 2, none⟩) hgl).trans C2.out; go_simp); first | done | with_reducible rfl)
   refine Rg.p1 7 (.some 38) ?_
   refine Rg.p1 8 (.some 39) ?_
   refine Rg.p1 9 (.some 40) ?_
   refine Rg.t1 10 (.some 41) hHeld ?_ (hy := by intro w' hS'; (have c1 := (hS'.cell (p := ⟨g, 3, none⟩) hgl).trans C3.out; go_simp); first | done | with_reducible rfl)
   refine Rg.p1 11 (.some 42) ?_
   refine Rg.p1 12 (.some 43) ?_
   refine Rg.t1 13 (.some 44) hHeld ?_ (hy := by intro w' hS'; (have c1 := (hS'.cell (p := ⟨g, 4, none⟩) hgl).trans C4.out; go_simp); first | done | with_reducible rfl)
   refine Rg.p1 14 (.some 45) ?_
   refine Rg.p1 15 (.some 46) ?_
   refine Rg.t1 16 (.some 47) hHeld ?_ (hy := by intro w' hS'; (have c1 := (hS'.cell (p := ⟨g, 5, none⟩) hgl).trans C5.out; go_simp); first | done | with_reducible rfl)
   refine Rg.p1 17 (.some 48) ?_
   refine Rg.p1 18 (.some 49) ?_
   refine Rg.o1 19 (.some 8) (fun K hK => ?_)
   refine value_ (w1 := w2.drew.alloc (.cells (Wi.rqc 0 0 0 0 0 (.slice none 0 0)).toArray 67)) (v := .pointer (some ⟨w2.heap.size, 0, none⟩)) (by rfl) rfl (by go_simp; rfl) ?_
   refine hK.out _ _ (hHeld.alloc hHeld.size _) (fun hHeld => ?_)
   clear hK K
   refine Rg.n1 ?_
   refine Rg.l1 20 none (fun K hK => ?_)
   refine Wk.store_all_step (by rfl) rfl 67 (.tmp 8) (.tmp 49) rfl w2.heap.size (Wi.rqc x1 x2 x3 x4 x5 (.slice none 0 0)) rfl rfl 67 _ (Wk.Blk.new w2.drew _ _) HSZ.out rfl rfl ?_
   intro w4 hX4 hO4
   have HX4 := az hX4
   have HO4 := az hO4
   clear hX4 hO4
   refine hK.out _ _ ?_
   clear hK K
   refine Rg.d1 ?_
   clear u1 u2 u5 hHeld
   have HBN := az (Wk.Only.fresh (w := w2.drew) (below_drew HB2.out) HB2.out.size HO4.out)
   have HC5 : Aside0 (w4.cell? ⟨g, 5, none⟩ = some (.int .u64 x5)) := ⟨(HBN.out.2.2.cell (p := ⟨g, 5, none⟩) hgl).trans C5.out⟩
   have HZ4 : Aside0 (Wk.Blk w4 w.heap.size 67 (Wi.rqc 0 0 0 0 0 (.slice none 0 0))) := ⟨HZ2.out.drew.below_ HBN.out.2.2⟩
   have HB4 := az HBN.out.2.1
   have HG2 := az (show w.heap.size < w2.heap.size from HZ2.out.lt)
   have cK : w4.cell? ⟨w2.heap.size, 1, none⟩ = some (.int .u16 x2) := HX4.out.at_ 1 rfl
   obtain ⟨G, hGd⟩ : ∃ G, w2.heap.size = G := ⟨_, rfl⟩
   rw [hGd] at cK HX4 HG2 ⊢
   have HGD := az hGd
   clear hGd HBN HO4 c0' HB2 HZ2 C1 C2 C3 C4 C5
   refine NoPanic.normal ?_
   by_cases hk : x2 = 1
   ·subst hk
    have c5 := HC5.out
    have HRR : Aside0 (_ = _) := ⟨HXE.out⟩
    rw [if_neg (by simp), if_pos rfl, HRES.out] at HRR
    clear HXE HRES
    by_cases hL : 65536 < x5
    ·rw [if_pos hL] at HRR
     obtain ⟨rfl, rfl, rfl, rfl, rfl, rfl, rfl, rfl⟩ : r1 = 0 ∧ r2 = 0 ∧ r3 = 0 ∧ r4 = 0 ∧ r5 = 0 ∧ r6 = [] ∧ r7 = 0 ∧ r8 = 82 := by simpa using HRR.out
     clear HRR
     go_wp2_with (refine Wk.store_all rfl rfl 67 (.tmp 2) (.tmp 57) rfl w.heap.size (Wi.rqc 0 0 0 0 0 (.slice none 0 0)) rfl rfl 67 _ HZ4.out HSZ.out rfl rfl ?_; intro w5 hX hO; have HX := az hX; have HO := az hO; clear hX hO)
     refine bodyPost_ret (Wk.res_ctt rfl _ w.heap.size 67 _ _ rfl HX.out Tryz.underlying67 rfl HSZ.out) rfl ?_
     exact ⟨_, rfl, Kd.R_nil _ _ _ _ _, Wk.Only.below HB4.out HO.out (Nat.le_refl _)⟩
    ·rw [if_neg hL] at HRR
     have hL' : x5 ≤ 65536 := by omega
     by_cases hM : (N : Int) < 28 + x5
     ·rw [if_pos hM] at HRR
      obtain ⟨rfl, rfl, rfl, rfl, rfl, rfl, rfl, rfl⟩ : r1 = 0 ∧ r2 = 0 ∧ r3 = 0 ∧ r4 = 0 ∧ r5 = 0 ∧ r6 = [] ∧ r7 = 0 ∧ r8 = 80 := by simpa using HRR.out
      clear HRR
      go_wp2_with (refine Wk.store_all rfl rfl 67 (.tmp 2) (.tmp 68) rfl w.heap.size (Wi.rqc 0 0 0 0 0 (.slice none 0 0)) rfl rfl 67 _ HZ4.out HSZ.out rfl rfl ?_; intro w5 hX hO; have HX := az hX; have HO := az hO; clear hX hO)
      refine bodyPost_ret (Wk.res_ctt rfl _ w.heap.size 67 _ _ rfl HX.out Tryz.underlying67 rfl HSZ.out) rfl ?_
      exact ⟨_, rfl, Kd.R_nil _ _ _ _ _, Wk.Only.below HB4.out HO.out (Nat.le_refl _)⟩
     ·rw [if_neg hM] at HRR
      obtain ⟨n5, hn5⟩ := Int.eq_ofNat_of_zero_le b50
      have hM' : 28 + x5 ≤ N := by omega
      obtain ⟨rfl, rfl, rfl, rfl, rfl, hr6, rfl, rfl⟩ : r1 = x1 ∧ r2 = 1 ∧ r3 = x3 ∧ r4 = x4 ∧ r5 = x5 ∧ r6 = (l0.drop 28).take n5 ∧ r7 = 28 + x5 ∧ r8 = 0 := by rw [hn5] at HRR ⊢; simpa using HRR.out
      have h28n : 28 + n5 ≤ N := by omega
      have HR6 := az hr6
      clear HRR hr6 hL hM
      obtain ⟨A1, hs1, hln, hC1⟩ := Wk.cut_mid_ (P := Tryz.prog) 35 5 .i64 .i64 Tryz.underlying35 Wi.infoByte1 .u8 A0 c0 l0 28 (28 + r5) 28 (28 + n5) rfl (by rw [hn5]; rfl) (by omega) (by rw [HN.out]; omega) (by rw [HN.out]; exact hc0)
      rw [HN.out] at hs1
      rw [show 28 + n5 - 28 = n5 by omega] at hs1 hln hC1
      have HLN := az hln
      have HCU := az (hC1 w4 (Kd.C_below HR0.out HB4.out))
      have HN5 := az hn5
      have H28 := az h28n
      clear hln hC1 hn5 h28n
      go_wp2_with fail
      have HF : Aside0 (Calls Tryz.prog 53 #[.slice A1 n5 (c0 - 28)] w4 fun e w' => ∃ v, e = .returned v ∧ Kd.R (Kd.int .u8) 5 w' w4.heap.size (fun _ => True) v r6 ∧ Below w4.heap.size w4 w') := ⟨by
       have h28 := H28.out
       have := clone_.calls A1 (c0 - 28) ((l0.drop 28).take n5) r6 w4 (by rw [HLN.out]; exact HCU.out) (by rw [HLN.out]; omega) (by unfold clone_.f; rw [if_pos (by rw [HLN.out]; omega), HR6.out])
       rw [HLN.out] at this
       exact this⟩
      refine HF.out.mono ?_
      rintro e w5 ⟨v5, rfl, rv, bv⟩
      obtain ⟨A5, c5', rfl⟩ := Kd.R_slice rv
      obtain ⟨n6, HN6⟩ : ∃ n, Aside0 (r6.length = n) := ⟨_, ⟨rfl⟩⟩
      rw [HN6.out] at rv ⊢
      have HV5 := az rv
      have HX5 := az (HX4.out.below_ bv)
      have HZ5 := az (HZ4.out.below_ bv)
      have HB5 := az (below_then HB4.out HB4.out.size bv)
      have HSL := az Wi.infoSl
      clear rv bv HF HX4 HZ4 cK c5 hs1
      go_wp2_with (first
       | (refine Wk.store rfl rfl 35 (.tmp 73) (.tmp 72) rfl G 5 (.slice A5 n6 c5') [.slice A5 n6 c5'] rfl rfl rfl 67 _ HX5.out HSL.out (Nat.le_of_ble_eq_true rfl) rfl ?_; intro w6 hX hO; have HX6 := az (show Wk.Blk w6 G 67 (Wi.rqc r1 1 r3 r4 r5 (.slice A5 n6 c5')) from hX); have HO6 := az hO; have HZ6 := az (HZ5.out.only hO (Nat.ne_of_lt HG2.out)); clear hX hO)
       | refine Wk.load rfl 67 (.tmp 8) rfl (.agg (Wi.rqc r1 1 r3 r4 r5 (.slice A5 n6 c5')).toArray) (.pointer (some ⟨G, 0, none⟩)) rfl (Wk.run_load_blk 67 G 0 _ _ HX6.out rfl Tryz.underlying67 rfl HSZ.out) ?_
       | (refine Wk.store_all rfl rfl 67 (.tmp 2) (.tmp 74) rfl w.heap.size (Wi.rqc r1 1 r3 r4 r5 (.slice A5 n6 c5')) rfl rfl 67 _ HZ6.out HSZ.out rfl rfl ?_; intro w7 hX hO; have HX := az hX; have HO := az hO; clear hX hO))
      refine bodyPost_ret (Wk.res_ctt rfl _ w.heap.size 67 _ _ rfl HX.out Tryz.underlying67 rfl HSZ.out) rfl ?_
      have hne : ∀ q, q ∈ 5 :: (Kd.int .u8).E → q ≠ 67 := by decide
      have hB6 := Wk.Only.below HB5.out HO6.out (Nat.le_of_lt HG2.out)
      exact ⟨_, rfl, Kd.R_lower (Wk.R_only (Wk.R_only HV5.out HX5.out hne HO6.out) HZ6.out hne HO.out) HB4.out.size, Wk.Only.below hB6 HO.out (Nat.le_refl _)⟩
   ·have tk : (x2 == 1) = false := by simpa using hk
    have HRR := HXE.out
    rw [if_neg (by simp), if_neg hk, HRES.out] at HRR
    obtain ⟨rfl, rfl, rfl, rfl, rfl, rfl, rfl, rfl⟩ : r1 = x1 ∧ r2 = x2 ∧ r3 = x3 ∧ r4 = x4 ∧ r5 = x5 ∧ r6 = [] ∧ r7 = 28 ∧ r8 = 0 := by simpa using HRR
    clear HRR HXE HRES hk
    go_wp2_with (first
     | refine Wk.load rfl 67 (.tmp 8) rfl (.agg (Wi.rqc r1 r2 r3 r4 r5 (.slice none 0 0)).toArray) (.pointer (some ⟨G, 0, none⟩)) rfl (Wk.run_load_blk 67 G 0 _ _ HX4.out rfl Tryz.underlying67 rfl HSZ.out) ?_
     | (refine Wk.store_all rfl rfl 67 (.tmp 2) (.tmp 74) rfl w.heap.size (Wi.rqc r1 r2 r3 r4 r5 (.slice none 0 0)) rfl rfl 67 _ HZ4.out HSZ.out rfl rfl ?_; intro w5 hX hO; have HX := az hX; have HO := az hO; clear hX hO))
    refine bodyPost_ret (Wk.res_ctt rfl _ w.heap.size 67 _ _ rfl HX.out Tryz.underlying67 rfl HSZ.out) rfl ?_
    exact ⟨_, rfl, Kd.R_nil _ _ _ _ _, Wk.Only.below HB4.out HO.out (Nat.le_refl _)⟩
  ·have hb0 : (x0 != 627086611) = true := by simpa using hx0
   have HR81 := HXE.out
   rw [if_pos hx0, HRES.out] at HR81
   obtain ⟨rfl, rfl, rfl, rfl, rfl, rfl, rfl, rfl⟩ : r1 = 0 ∧ r2 = 0 ∧ r3 = 0 ∧ r4 = 0 ∧ r5 = 0 ∧ r6 = [] ∧ r7 = 0 ∧ r8 = 81 := by simpa using HR81
   clear HRES HR81 HXE hx0
   go_wp2_with (refine Wk.store_all rfl rfl 67 (.tmp 2) (.tmp 30) rfl w.heap.size (Wi.rqc 0 0 0 0 0 (.slice none 0 0)) rfl rfl 67 _ HZ2.out HSZ.out rfl rfl ?_; intro w3 hX hO; have HX := az hX; have HO := az hO; clear hX hO)
   refine bodyPost_ret (Wk.res_ctt rfl _ w.heap.size 67 _ _ rfl HX.out Tryz.underlying67 rfl HSZ.out) rfl ?_
   exact ⟨_, rfl, Kd.R_nil _ _ _ _ _, Wk.Only.below HB2.out HO.out (Nat.le_refl _)⟩
def coamingref08_Next.f (l0 : List Int) : Option (Int × Int × Int × Int × Int × List Int × Int × Int) := if l0.length ≤ 1000000 ∧ ∀ x ∈ l0, 0 ≤ x ∧ x ≤ 255 then some (Wi.nextOf l0) else none
theorem coamingref08_Next.calls (A0 : Option Addr) (c0 : Nat) (l0 : List Int) (r1 : Int) (r2 : Int) (r3 : Int) (r4 : Int) (r5 : Int) (r6 : List Int) (r7 : Int) (r8 : Int) (w : World) (hr0 : Kd.C (Kd.int .u8) w A0 l0.length l0) (hc0 : l0.length ≤ c0) (h : coamingref08_Next.f l0 = some (r1, r2, r3, r4, r5, r6, r7, r8)) :
    Calls Tryz.prog 68 #[.slice A0 l0.length c0] w fun e w' => ∃ v5_ : Value, e = .returned (.tuple #[.agg #[.int .u16 r1, .int .u16 r2, .int .u64 r3, .int .u64 r4, .int .u32 r5, v5_], .int .i64 r7, .int .i64 r8]) ∧ Kd.R (Kd.int .u8) 5 w' w.heap.size (fun _ => True) v5_ r6 ∧ Below w.heap.size w w' := by
  unfold coamingref08_Next.f at h
  obtain ⟨hlen, hby⟩ : l0.length ≤ 1000000 ∧ Wi.Bytes l0 := by
    by_cases hc : l0.length ≤ 1000000 ∧ ∀ x ∈ l0, 0 ≤ x ∧ x ≤ 255
    · exact hc
    · rw [if_neg hc] at h; cases h
  rw [if_pos ⟨hlen, hby⟩] at h
  have HRES := az (Option.some.inj h)
  have HR0 := az hr0
  have HBY := az hby
  have HTF := az (Wi.rtake_is l0 [4, 2, 2, 8, 8, 4] hby hlen (by decide) 100 (by decide))
  clear h hr0 hby
  obtain ⟨N, HN⟩ : ∃ N, Aside0 (l0.length = N) := ⟨_, ⟨rfl⟩⟩
  rw [HN.out] at hlen hc0 ⊢
  go_enter Tryz.func68, Tryz.ntmps68
  go_wp2_with fail
  generalize hWq : World.alloc (World.alloc w _) _ = W0
  have HB0 : Aside0 (Below w.heap.size w W0) := ⟨by rw [← hWq]; exact below_alloc (below_alloc (Below.refl _ _) _) _⟩
  have HZ0 : Aside0 (Wk.Blk W0 w.heap.size 67 (Wi.rqc 0 0 0 0 0 (.slice none 0 0))) := ⟨by rw [← hWq]; exact (Wk.Blk.new w _ (Wi.rqc 0 0 0 0 0 (.slice none 0 0))).alloc _⟩
  have HCW : Aside0 (Kd.C (Kd.int .i64) W0 (some ⟨w.heap.size + 1, 0, none⟩) 6 [4, 2, 2, 8, 8, 4]) := ⟨by rw [← hWq]; exact Lit.two_reads w _ _ .i64 [4, 2, 2, 8, 8, 4] rfl (by decide)⟩
  clear hWq
  have HSZ := az Wi.info28
  obtain ⟨ns, rs, ok, HTK⟩ : ∃ (ns rs : List Int) (ok : Bool), Aside0 (Wi.takes l0 [4, 2, 2, 8, 8, 4] [] = (ns, rs, ok) ∧ (ok = decide (28 ≤ N)) ∧ (28 ≤ N → rs = l0.drop 28 ∧ ns = [Wi.rq0 l0, Wi.rq1 l0, Wi.rq2 l0, Wi.rq3 l0, Wi.rq4 l0, Wi.rq5 l0])) := by
    have hN := HN.out
    by_cases h : N < 28
    · exact ⟨[], [], false, ⟨by rw [Wi.takes6, if_pos (by omega)], by simp; omega, fun h2 => absurd h2 (by omega)⟩⟩
    · exact ⟨_, _, true, ⟨by rw [Wi.takes6, if_neg (by omega)], by simp; omega, fun _ => ⟨rfl, rfl⟩⟩⟩
  have HF : Aside0 (Calls Tryz.prog 77 #[.slice A0 N c0, .slice (some ⟨w.heap.size + 1, 0, none⟩) 6 6] W0 fun e w' => ∃ v0_ v1_ : Value, e = .returned (.tuple #[v0_, v1_, .bool ok]) ∧ Kd.R (Kd.int .u64) 45 w' W0.heap.size (fun _ => True) v0_ ns ∧ Kd.R (Kd.int .u8) 5 w' W0.heap.size (fun _ => True) v1_ rs ∧ Below W0.heap.size W0 w') := ⟨by
    have := PBase.coamingref06_Take.calls 100 A0 c0 l0 (some ⟨w.heap.size + 1, 0, none⟩) 6 [4, 2, 2, 8, 8, 4] ns rs ok W0 (Kd.C_below HR0.out HB0.out) (by rw [HN.out]; exact hc0) HCW.out (by decide) (by rw [HTF.out, HTK.out.1])
    rw [HN.out] at this
    exact this⟩
  refine HF.out.mono ?_
  rintro e w2 ⟨v0, v1, rfl, rv0, rv1, bf⟩
  have HV := az rv0
  have HV1 := az rv1
  have HB2 : Aside0 (Below w.heap.size w w2) := ⟨below_then HB0.out HB0.out.size bf⟩
  have HZ2 := az (HZ0.out.below_ bf)
  clear rv0 rv1 bf HF HCW HTF
  cases ok
  · have HRR : Aside0 (Wi.nextOf l0 = (0, 0, 0, 0, 0, [], 0, 80)) := ⟨by
      have h1 : ¬ 28 ≤ N := of_decide_eq_false HTK.out.2.1.symm
      unfold Wi.nextOf
      rw [if_pos (by rw [HN.out]; omega)]⟩
    rw [HRES.out] at HRR
    obtain ⟨rfl, rfl, rfl, rfl, rfl, rfl, rfl, rfl⟩ : r1 = 0 ∧ r2 = 0 ∧ r3 = 0 ∧ r4 = 0 ∧ r5 = 0 ∧ r6 = [] ∧ r7 = 0 ∧ r8 = 80 := by simpa using HRR.out
    clear HTK HRES HRR HV HV1
    go_wp2_with (refine Wk.store_all rfl rfl 67 (.tmp 2) (.tmp 19) rfl w.heap.size (Wi.rqc 0 0 0 0 0 (.slice none 0 0)) rfl rfl 67 _ HZ2.out HSZ.out rfl rfl ?_; intro w3 hX hO; have HX := az hX; have HO := az hO; clear hX hO)
    refine bodyPost_ret (Wk.res_ctt rfl _ w.heap.size 67 _ _ rfl HX.out Tryz.underlying67 rfl HSZ.out) rfl ?_
    exact ⟨_, rfl, Kd.R_nil _ _ _ _ _, Wk.Only.below HB2.out HO.out (Nat.le_refl _)⟩
  · obtain ⟨x0, x1, x2, x3, x4, x5, hns, HX⟩ : ∃ x0 x1 x2 x3 x4 x5, ns = [x0, x1, x2, x3, x4, x5] ∧ Aside0 (Wi.rq0 l0 = x0 ∧ Wi.rq1 l0 = x1 ∧ Wi.rq2 l0 = x2 ∧ Wi.rq3 l0 = x3 ∧ Wi.rq4 l0 = x4 ∧ Wi.rq5 l0 = x5) := ⟨_, _, _, _, _, _, (HTK.out.2.2 (of_decide_eq_true HTK.out.2.1.symm)).2, ⟨rfl, rfl, rfl, rfl, rfl, rfl⟩⟩
    have h28 : 28 ≤ N := of_decide_eq_true HTK.out.2.1.symm
    have HRS := az (HTK.out.2.2 h28).1
    subst hns
    obtain ⟨g, cg, rfl, hgb, hgl, hgc, c0', c1', c2', c3', c4', c5'⟩ := Wi.six_cells HV.out
    obtain ⟨A1, cA1, rfl, hcA, hCA⟩ := Kd.R_reads HV1.out
    obtain ⟨M, HM⟩ : ∃ M, Aside0 (rs.length = M) := ⟨_, ⟨rfl⟩⟩
    have hMN : M + 28 = N := by rw [← HM.out, HRS.out, List.length_drop, HN.out]; omega
    have HMN := az hMN
    rw [HM.out] at hcA ⊢
    have HCA := az hCA
    have C1 := az c1'
    have C2 := az c2'
    have C3 := az c3'
    have C4 := az c4'
    have C5 := az c5'
    clear c1' c2' c3' c4' c5' HV HTK HV1 hCA hMN
    have hbn := Wi.rq_bnd l0 HBY.out
    obtain ⟨e0, e1, e2, e3, e4, e5⟩ := HX.out
    rw [e0, e1, e2, e3, e4, e5] at hbn
    have HXE : Aside0 (Wi.nextOf l0 = if x0 ≠ 627086611 then (0, 0, 0, 0, 0, [], 0, 81)
      else if x2 = 1 then if x5 > 65536 then (0, 0, 0, 0, 0, [], 0, 82) else if 28 + x5 > N then (0, 0, 0, 0, 0, [], 0, 80) else (x1, x2, x3, x4, x5, (l0.drop 28).take x5.toNat, 28 + x5, 0)
      else (x1, x2, x3, x4, x5, [], 28, 0)) := ⟨by unfold Wi.nextOf; rw [if_neg (by rw [HN.out]; omega), e0, e1, e2, e3, e4, e5, HN.out]⟩
    clear e0 e1 e2 e3 e4 e5 HX
    obtain ⟨⟨b00, b01⟩, ⟨b10, b11⟩, ⟨b20, b21⟩, ⟨b30, b31⟩, ⟨b40, b41⟩, ⟨b50, b51⟩⟩ := hbn
    by_cases hx0 : x0 = 627086611
    · subst hx0
      go_wp2_with fail
      have u1 := IntWalk.u16_in x1 (by omega)
      have u2 := IntWalk.u16_in x2 (by omega)
      have u5 := IntWalk.u32_in x5 (by omega)
      refine wp_region_noPanic ?_
      refine Rg.s1 21 (fun w' => Below w2.heap.size w2 w') [20] (Below.refl _ _).drew #[false, false, false, false, false, false, false, false, false, false, false, false, false, false, false, false, false, false, false, false, false] (fun hHeld => ?_)
      refine Rg.p1 0 (.some 25) ?_
      refine Rg.p1 1 (.some 26) ?_
      refine Rg.t1 2 (.some 27) hHeld ?_ (hy := by intro w' hS'; (have c1 := (hS'.cell (p := ⟨g, 1, none⟩) hgl).trans C1.out; go_simp); first | done | with_reducible rfl)
      refine Rg.p1 3 (.some 28) ?_
      refine Rg.p1 4 (.some 29) ?_
      refine Rg.p1 5 (.some 30) ?_
      refine Rg.t1 6 (.some 31) hHeld ?_ (hy := by intro w' hS'; (have c1 := (hS'.cell (p := ⟨g, 2, none⟩) hgl).trans C2.out; go_simp); first | done | with_reducible rfl)
      refine Rg.p1 7 (.some 32) ?_
      refine Rg.p1 8 (.some 33) ?_
      refine Rg.p1 9 (.some 34) ?_
      refine Rg.t1 10 (.some 35) hHeld ?_ (hy := by intro w' hS'; (have c1 := (hS'.cell (p := ⟨g, 3, none⟩) hgl).trans C3.out; go_simp); first | done | with_reducible rfl)
      refine Rg.p1 11 (.some 36) ?_
      refine Rg.p1 12 (.some 37) ?_
      refine Rg.t1 13 (.some 38) hHeld ?_ (hy := by intro w' hS'; (have c1 := (hS'.cell (p := ⟨g, 4, none⟩) hgl).trans C4.out; go_simp); first | done | with_reducible rfl)
      refine Rg.p1 14 (.some 39) ?_
      refine Rg.p1 15 (.some 40) ?_
      refine Rg.t1 16 (.some 41) hHeld ?_ (hy := by intro w' hS'; (have c1 := (hS'.cell (p := ⟨g, 5, none⟩) hgl).trans C5.out; go_simp); first | done | with_reducible rfl)
      refine Rg.p1 17 (.some 42) ?_
      refine Rg.p1 18 (.some 43) ?_
      refine Rg.o1 19 (.some 8) (fun K hK => ?_)
      refine value_ (w1 := w2.drew.alloc (.cells (Wi.rqc 0 0 0 0 0 (.slice none 0 0)).toArray 67)) (v := .pointer (some ⟨w2.heap.size, 0, none⟩)) (by rfl) rfl (by go_simp; rfl) ?_
      refine hK.out _ _ (hHeld.alloc hHeld.size _) (fun hHeld => ?_)
      clear hK K
      refine Rg.n1 ?_
      refine Rg.l1 20 none (fun K hK => ?_)
      refine Wk.store_all_step (by rfl) rfl 67 (.tmp 8) (.tmp 43) rfl w2.heap.size (Wi.rqc x1 x2 x3 x4 x5 (.slice none 0 0)) rfl rfl 67 _ (Wk.Blk.new w2.drew _ _) HSZ.out rfl rfl ?_
      intro w4 hX4 hO4
      have HX4 := az hX4
      have HO4 := az hO4
      clear hX4 hO4
      refine hK.out _ _ ?_
      clear hK K
      refine Rg.d1 ?_
      clear u1 u2 u5 hHeld
      have HBN := az (Wk.Only.fresh (w := w2.drew) (below_drew HB2.out) HB2.out.size HO4.out)
      have HZ4 : Aside0 (Wk.Blk w4 w.heap.size 67 (Wi.rqc 0 0 0 0 0 (.slice none 0 0))) := ⟨HZ2.out.drew.below_ HBN.out.2.2⟩
      have HB4 := az HBN.out.2.1
      have HG2 := az (show w.heap.size < w2.heap.size from HZ2.out.lt)
      have HCA4 := az (Kd.C_below (w := w2.drew) HCA.out HBN.out.2.2)
      have cK : w4.cell? ⟨w2.heap.size, 1, none⟩ = some (.int .u16 x2) := HX4.out.at_ 1 rfl
      have cL : w4.cell? ⟨w2.heap.size, 4, none⟩ = some (.int .u32 x5) := HX4.out.at_ 4 rfl
      obtain ⟨G, hGd⟩ : ∃ G, w2.heap.size = G := ⟨_, rfl⟩
      rw [hGd] at cK cL HX4 HG2 ⊢
      clear hGd HBN HO4 c0' HB2 HZ2 C1 C2 C3 C4 C5 HCA
      refine NoPanic.normal ?_
      by_cases hk : x2 = 1
      · subst hk
        have HRR : Aside0 (_ = _) := ⟨HXE.out⟩
        rw [if_neg (by simp), if_pos rfl, HRES.out] at HRR
        clear HXE HRES
        by_cases hL : 65536 < x5
        · rw [if_pos hL] at HRR
          obtain ⟨rfl, rfl, rfl, rfl, rfl, rfl, rfl, rfl⟩ : r1 = 0 ∧ r2 = 0 ∧ r3 = 0 ∧ r4 = 0 ∧ r5 = 0 ∧ r6 = [] ∧ r7 = 0 ∧ r8 = 82 := by simpa using HRR.out
          clear HRR
          go_wp2_with (refine Wk.store_all rfl rfl 67 (.tmp 2) (.tmp 51) rfl w.heap.size (Wi.rqc 0 0 0 0 0 (.slice none 0 0)) rfl rfl 67 _ HZ4.out HSZ.out rfl rfl ?_; intro w5 hX hO; have HX := az hX; have HO := az hO; clear hX hO)
          refine bodyPost_ret (Wk.res_ctt rfl _ w.heap.size 67 _ _ rfl HX.out Tryz.underlying67 rfl HSZ.out) rfl ?_
          exact ⟨_, rfl, Kd.R_nil _ _ _ _ _, Wk.Only.below HB4.out HO.out (Nat.le_refl _)⟩
        · rw [if_neg hL] at HRR
          have hL' : x5 ≤ 65536 := by omega
          by_cases hM : (M : Int) < x5
          · rw [if_pos (by have := HMN.out; omega)] at HRR
            obtain ⟨rfl, rfl, rfl, rfl, rfl, rfl, rfl, rfl⟩ : r1 = 0 ∧ r2 = 0 ∧ r3 = 0 ∧ r4 = 0 ∧ r5 = 0 ∧ r6 = [] ∧ r7 = 0 ∧ r8 = 80 := by simpa using HRR.out
            clear HRR
            go_wp2_with (refine Wk.store_all rfl rfl 67 (.tmp 2) (.tmp 58) rfl w.heap.size (Wi.rqc 0 0 0 0 0 (.slice none 0 0)) rfl rfl 67 _ HZ4.out HSZ.out rfl rfl ?_; intro w5 hX hO; have HX := az hX; have HO := az hO; clear hX hO)
            refine bodyPost_ret (Wk.res_ctt rfl _ w.heap.size 67 _ _ rfl HX.out Tryz.underlying67 rfl HSZ.out) rfl ?_
            exact ⟨_, rfl, Kd.R_nil _ _ _ _ _, Wk.Only.below HB4.out HO.out (Nat.le_refl _)⟩
          · rw [if_neg (by have := HMN.out; omega)] at HRR
            obtain ⟨n5, hn5⟩ := Int.eq_ofNat_of_zero_le b50
            have hM' : x5 ≤ M := by omega
            obtain ⟨rfl, rfl, rfl, rfl, rfl, hr6, rfl, rfl⟩ : r1 = x1 ∧ r2 = 1 ∧ r3 = x3 ∧ r4 = x4 ∧ r5 = x5 ∧ r6 = (l0.drop 28).take n5 ∧ r7 = 28 + x5 ∧ r8 = 0 := by rw [hn5] at HRR ⊢; simpa using HRR.out
            have hnM : n5 ≤ M := by omega
            have HR6 : Aside0 (r6 = rs.take n5) := ⟨by rw [hr6, HRS.out]⟩
            clear HRR hr6 hL hM
            have hs1 := Wk.cut_to_ (P := Tryz.prog) 35 5 .i64 Tryz.underlying35 Wi.infoByte1 A1 cA1 rs r5 n5 hn5 (by rw [HM.out]; exact hnM) (by rw [HM.out]; exact hcA)
            rw [HM.out] at hs1
            have HN6 : Aside0 (r6.length = n5) := ⟨by rw [HR6.out, List.length_take, HM.out]; omega⟩
            have HCU : Aside0 (Kd.C (Kd.int .u8) w4 A1 n5 r6) := ⟨by
              have := Kd.C_take (m := n5) (k := Kd.int .u8) (xs := rs) (w := w4) (A := A1) HCA4.out (by rw [HM.out]; exact hnM)
              rw [← HR6.out, HN6.out] at this
              exact this⟩
            have HN5 := az hn5
            have HNM := az hnM
            have HSL := az Wi.infoSl
            have HA0 : Aside0 (Kd.R (Kd.int .u8) 5 w4 w.heap.size (fun _ => True) (.slice none 0 0) ([] : List Int)) := ⟨Kd.R_nil _ _ _ _ _⟩
            have HLL : Aside0 (([] : List Int).length + n5 ≤ 140737488355328) := ⟨by have := HNM.out; simp; omega⟩
            have HLB : Aside0 ((([] : List Int).length + n5) * 1 ≤ 140737488355328) := ⟨by have := HLL.out; omega⟩
            clear hnM hn5
            go_wp2_with (first
              | (at_builtin; refine Kd.R_append_rows (Kd.int .u8) (w0 := w) w.heap.size rfl (.tmp 59) (.tmp 64) 35 5 (.int .u8 0) 1 rfl Tryz.underlying35 Cl.infoByte rfl (by decide) (by omega) (.slice none 0 0) ([] : List Int) r6 A1 n5 cA1 (fun _ => True) (fun _ => False) rfl rfl HA0.out HCU.out (fun _ _ h => h) (fun _ h => h.elim) (fun _ _ => trivial) HB4.out HB4.out.size HLB.out ?_; intro v5 w5 ho hb hg _; obtain ⟨A5, c5', rfl⟩ := Kd.R_slice ho; rw [List.nil_append, HN6.out] at *; have HO5 := az ho; have HB5 := az hb; have HX5 := az (HX4.out.grown hg (by simp [Value.ownBlock])); have HZ5 := az (HZ4.out.grown hg (by simp [Value.ownBlock])); clear ho hb hg)
              | (refine Wk.store rfl rfl 35 (.tmp 67) (.tmp 66) rfl G 5 (.slice A5 n5 c5') [.slice A5 n5 c5'] rfl rfl rfl 67 _ HX5.out HSL.out (Nat.le_of_ble_eq_true rfl) rfl ?_; intro w6 hX hO; have HX6 := az (show Wk.Blk w6 G 67 (Wi.rqc r1 1 r3 r4 r5 (.slice A5 n5 c5')) from hX); have HO6 := az hO; have HZ6 := az (HZ5.out.only hO (Nat.ne_of_lt HG2.out)); clear hX hO))
            have u5 := IntWalk.i64_in r5 (by omega)
            have u6 := IntWalk.i64_in (28 + r5) (by clear u5; omega)
            refine wp_region_noPanic ?_
            refine Rg.s1 8 (fun w' => Wk.Blk w' G 67 (Wi.rqc r1 1 r3 r4 r5 (.slice A5 n5 c5'))) [] HX6.out.drew #[false, false, false, false, false, false, false, false] (fun hHeld => ?_)
            refine Rg.t1 0 (.some 68) hHeld ?_ (hy := by intro w' hS'; (have hl := Wk.run_load_blk (P := Tryz.prog) 67 G 0 (Wi.rqc r1 1 r3 r4 r5 (.slice A5 n5 c5')) _ hS' rfl Tryz.underlying67 rfl HSZ.out; refine (Wk.exec_load 67 (.tmp 8) rfl _ _ rfl hl).trans ?_); first | done | with_reducible rfl)
            refine Rg.p1 1 (.some 69) ?_
            refine Rg.t1 2 (.some 70) hHeld ?_ (hy := by intro w' hS'; (have c1 := hS'.at_ 4 rfl; go_simp); first | done | with_reducible rfl)
            refine Rg.p1 3 (.some 71) ?_
            refine Rg.p1 4 (.some 72) ?_
            refine Rg.o1 5 none (fun K hK => ?_)
            refine Wk.store_all_step (by rfl) rfl 67 (.tmp 2) (.tmp 68) rfl w.heap.size (Wi.rqc r1 1 r3 r4 r5 (.slice A5 n5 c5')) rfl rfl 67 _ HZ6.out.drew HSZ.out rfl rfl ?_
            intro w7 hX7 hO7
            have HX7 := az hX7
            have HO7 := az hO7
            clear hX7 hO7
            refine hK.out _ _ (hHeld.only HO7.out (Nat.ne_of_gt HG2.out)) (fun hHeld => ?_)
            clear hK K
            refine Rg.p1 6 (.some 3) ?_
            refine Rg.p1 7 (.some 4) ?_
            refine Rg.d1 ?_
            clear u5 u6
            refine NoPanic.normal ?_
            go_wp2_with fail
            refine bodyPost_ret (Wk.res_ctt rfl _ w.heap.size 67 _ _ rfl HX7.out Tryz.underlying67 rfl HSZ.out) rfl ?_
            have hne : ∀ q, q ∈ 5 :: (Kd.int .u8).E → q ≠ 67 := by decide
            have hB6 := Wk.Only.below HB5.out HO6.out (Nat.le_of_lt HG2.out)
            have hO7 : Wk.Only w6 w7 w.heap.size := ⟨HO7.out.os, HO7.out.tape, HO7.out.output, HO7.out.size, HO7.out.block⟩
            exact ⟨_, rfl, Wk.R_only (Wk.R_only HO5.out HX5.out hne HO6.out) HZ6.out hne hO7, Wk.Only.below hB6 hO7 (Nat.le_refl _)⟩
      · have tk : (x2 != 1) = true := by simpa using hk
        have HRR := HXE.out
        rw [if_neg (by simp), if_neg hk, HRES.out] at HRR
        obtain ⟨rfl, rfl, rfl, rfl, rfl, rfl, rfl, rfl⟩ : r1 = x1 ∧ r2 = x2 ∧ r3 = x3 ∧ r4 = x4 ∧ r5 = x5 ∧ r6 = [] ∧ r7 = 28 ∧ r8 = 0 := by simpa using HRR
        clear HRR HXE HRES hk
        go_wp2_with (first
          | refine Wk.load rfl 67 (.tmp 8) rfl (.agg (Wi.rqc r1 r2 r3 r4 r5 (.slice none 0 0)).toArray) (.pointer (some ⟨G, 0, none⟩)) rfl (Wk.run_load_blk 67 G 0 _ _ HX4.out rfl Tryz.underlying67 rfl HSZ.out) ?_
          | (refine Wk.store_all rfl rfl 67 (.tmp 2) (.tmp 47) rfl w.heap.size (Wi.rqc r1 r2 r3 r4 r5 (.slice none 0 0)) rfl rfl 67 _ HZ4.out HSZ.out rfl rfl ?_; intro w5 hX hO; have HX := az hX; have HO := az hO; clear hX hO))
        refine bodyPost_ret (Wk.res_ctt rfl _ w.heap.size 67 _ _ rfl HX.out Tryz.underlying67 rfl HSZ.out) rfl ?_
        exact ⟨_, rfl, Kd.R_nil _ _ _ _ _, Wk.Only.below HB4.out HO.out (Nat.le_refl _)⟩
    · have hb0 : (x0 != 627086611) = true := by simpa using hx0
      have HRR : Aside0 (_ = _) := ⟨HXE.out⟩
      rw [if_pos hx0, HRES.out] at HRR
      obtain ⟨rfl, rfl, rfl, rfl, rfl, rfl, rfl, rfl⟩ : r1 = 0 ∧ r2 = 0 ∧ r3 = 0 ∧ r4 = 0 ∧ r5 = 0 ∧ r6 = [] ∧ r7 = 0 ∧ r8 = 81 := by simpa using HRR.out
      clear HRES HRR HXE hx0
      go_wp2_with (refine Wk.store_all rfl rfl 67 (.tmp 2) (.tmp 24) rfl w.heap.size (Wi.rqc 0 0 0 0 0 (.slice none 0 0)) rfl rfl 67 _ HZ2.out HSZ.out rfl rfl ?_; intro w3 hX hO; have HX := az hX; have HO := az hO; clear hX hO)
      refine bodyPost_ret (Wk.res_ctt rfl _ w.heap.size 67 _ _ rfl HX.out Tryz.underlying67 rfl HSZ.out) rfl ?_
      exact ⟨_, rfl, Kd.R_nil _ _ _ _ _, Wk.Only.below HB2.out HO.out (Nat.le_refl _)⟩
end Go.Proofs.YtgljicdpcapgnaaGreatDoor
namespace Go.Proofs.YtgljicdpcapgnaaGreatDoor.Wi
open Go.RowKit Go.Proofs.YtgljicdpcapgnaaGreatDoor Go.Proofs.YtgljicdpcapgnaaGreatDoor.PBase Go.Proofs.YtgljicdpcapgnaaGreatDoorW.PrintWords Go.Proofs.YtgljicdpcapgnaaGreatDoorW.PrintLast Go.Proofs.YtgljicdpcapgnaaGreatDoorW.PrintMore
theorem ql1 (x0 x1 : List Int) (i : Nat) (hi : i < x1.length) (hl : x1.length ≤ 1000000) : ∀ (n : Nat), n ≤ 8 → ∀ (K : Nat) (acc : List Int), acc.length + n ≤ 100000000 →
    coamingref06_Pack.l1 (K + n + 1) x0 x1 acc i ((n : Int) - 1) = coamingref06_Pack.l0 K x0 x1 (acc ++ be (rd x1 i) n) (i + 1) := by
  intro n
  induction n with
  | zero =>
    intro _ K acc _
    rw [coamingref06_Pack.l1, if_neg (by omega), be, List.append_nil, w64 _ (by omega) (by omega)]
  | succ n ih =>
    intro hn K acc ha
    rw [coamingref06_Pack.l1, if_pos (by omega), if_pos (by omega), if_pos (by omega)]
    have e : wrap64 (8 * (((n + 1 : Nat) : Int) - 1)) = 8 * (n : Int) := by rw [w64 _ (by omega) (by omega)]; omega
    have e2 : wrap64 (((n + 1 : Nat) : Int) - 1 - 1) = (n : Int) - 1 := by rw [w64 _ (by omega) (by omega)]; omega
    rw [e, e2, Bt.wraps_u64 _ (by omega) (by omega), if_pos (by omega), if_pos (by omega), shr_be _ _ (by omega)]
    rw [show K + (n + 1) = K + n + 1 by omega, ih (by omega) K _ (by simp; omega), be, List.append_assoc]
    rfl
theorem next_is (l : List Int) (h : l.length ≤ 1000000) (hb : Bytes l) : req_Next.f l = some (nextOf l) := by unfold req_Next.f; rw [if_pos ⟨by omega, hb⟩]
theorem rnext_is (l : List Int) (h : l.length ≤ 1000000) (hb : Bytes l) : coamingref08_Next.f l = some (nextOf l) := by unfold coamingref08_Next.f; rw [if_pos ⟨by omega, hb⟩]
def hd (fl kd ck off n : Int) : List Int := packs [4, 2, 2, 8, 8, 4] [627086611, fl, kd, ck, off, n]
def rqb (fl kd ck off len : Int) (data : List Int) : List Int := if kd = 1 then hd fl kd ck off data.length ++ data else hd fl kd ck off len
theorem of_wf {k : IntKind} {n : Int} (h : (Lit.int k n).wf = true) : k.min ≤ n ∧ n ≤ k.max := by simpa [Lit.wf] using h
theorem of_wf32' {n : Int} (h : (Lit.int .u32 n).wf = true) : 0 ≤ n ∧ n < 4294967296 := by
  simp [Lit.wf, IntKind.min, IntKind.max, IntKind.signed, IntKind.bits] at h
  omega
end Go.Proofs.YtgljicdpcapgnaaGreatDoor.Wi
namespace Go.Proofs.YtgljicdpcapgnaaGreatDoor
open Go.RowKit Go.Proofs.YtgljicdpcapgnaaGreatDoor Go.Proofs.YtgljicdpcapgnaaGreatDoor.PBase Go.Proofs.YtgljicdpcapgnaaGreatDoorW.PrintWords Go.Proofs.YtgljicdpcapgnaaGreatDoorW.PrintLast Go.Proofs.YtgljicdpcapgnaaGreatDoorW.PrintMore Go.Proofs.YtgljicdpcapgnaaGreatDoor.Wi
namespace Rw
def rqc (x1 x2 x3 x4 x5 : Int) (v : Value) : List Value := [.int .u16 x1, .int .u16 x2, .int .u64 x3, .int .u64 x4, .int .u32 x5, v]
def zrq : List Value := rqc 0 0 0 0 0 (.slice none 0 0)
theorem size22 : (Tryz.prog.info? 35).map (·.size) = some 1 := by kernel_rfl
theorem infoByte : (Tryz.prog.info? 5).map (fun i => (i.zero, i.size, i.bytes)) = some (some (.int .u8 0), 1, 1) := by kernel_rfl
theorem infoByte1 : (Tryz.prog.info? 5).map (·.size) = some 1 := by kernel_rfl
def bs (r : Rq) : List Int := rqb r.1 r.2.1 r.2.2.1 r.2.2.2.1 r.2.2.2.2.1 r.2.2.2.2.2
def wd (r : Rq) : List Int := if r.2.1 = 1 then r.2.2.2.2.2 else []
end Rw
theorem next_.calls {w : World} {A : Option Addr} {c : Nat} {l : List Int} {r1 r2 r3 r4 r5 r7 r8 : Int} {r6 : List Int} (hC : Kd.C (Kd.int .u8) w A l.length l) (hc : l.length ≤ c) (hl : l.length ≤ 1000000) (hb : Bytes l) (hn : nextOf l = (r1, r2, r3, r4, r5, r6, r7, r8)) : Calls Tryz.prog 75 #[.slice A l.length c] w fun e w' => ∃ A c, e = .returned (.tuple #[.agg (Rw.rqc r1 r2 r3 r4 r5 (.slice A r6.length c)).toArray, .int .i64 r7, .int .u16 r8]) ∧ Kd.R (Kd.int .u8) 5 w' w.heap.size (fun _ => True) (.slice A r6.length c) r6 ∧ Below w.heap.size w w' := by
  refine (req_Next.calls A c l r1 r2 r3 r4 r5 r6 r7 r8 w hC hc (by rw [next_is l hl hb, hn])).mono ?_
  rintro e w' ⟨v, rfl, hR, hb⟩
  obtain ⟨A', c', rfl⟩ := Kd.R_slice hR
  exact ⟨A', c', rfl, hR, hb⟩
end Go.Proofs.YtgljicdpcapgnaaGreatDoor
namespace Go.Proofs.YtgljicdpcapgnaaGreatDoor
open Go.RowKit Go.Proofs.YtgljicdpcapgnaaGreatDoor.PBase Go.Proofs.YtgljicdpcapgnaaGreatDoorW.PrintWords Go.Proofs.YtgljicdpcapgnaaGreatDoorW.PrintLast Go.Proofs.YtgljicdpcapgnaaGreatDoorW.PrintMore
namespace Cn
theorem reqnext_ {A : Option Addr} {n c : Nat} {l : List Int} {W : World} {f k ck off len m e : Int} {d : List Int} (h : Kd.C (Kd.int .u8) W A l.length l) (hn : l.length = n) (hc : n ≤ c) (hl : n ≤ 1000000) (hb : Sh.Bytes l) (hf : Wi.nextOf l = (f, k, ck, off, len, d, m, e)) :
    Calls Tryz.prog 75 #[.slice A n c] W fun e' w' => ∃ A' c', e' = .returned (.tuple #[.agg #[.int .u16 f, .int .u16 k, .int .u64 ck, .int .u64 off, .int .u32 len, .slice A' d.length c'], .int .i64 m, .int .u16 e]) ∧ Kd.R (Kd.int .u8) 5 w' W.heap.size (fun _ => True) (.slice A' d.length c') d ∧ Below W.heap.size W w' := by
  subst hn
  exact next_.calls h hc hl hb hf
theorem refused_ (W : World) (e : Int) : Calls Tryz.prog 90 #[.int .u16 e] W fun e' w' => e' = .returned (.int .u32 (refused e)) ∧ Below W.heap.size W w' :=
  (conn_refused.calls e (refused e) W (by
    unfold conn_refused.f refused
    by_cases h : e = 74
    · rw [if_pos h, if_pos h]
    · rw [if_neg h, if_neg h]
      by_cases h1 : e = 50
      · rw [if_pos h1, if_pos (Or.inl h1)]
      · rw [if_neg h1]
        by_cases h2 : e = 51
        · rw [if_pos h2, if_pos (Or.inr h2)]
        · rw [if_neg h2, if_neg (fun h => h.elim h1 h2)])).mono (fun _ _ ⟨a, h⟩ => ⟨a, by obtain ⟨m, hm⟩ := h.out; rw [hm]; exact pw_below_drewN (Below.refl _ _) m⟩)
theorem index_l (l : List Int) (x : Int) (hl : l.length ≤ 1000000) : ∀ (d i k : Nat), i + d = l.length → d < k → ∃ r, slices_Index_uint16_uint16.l0 k l x (l.length : Int) i = some r ∧ (0 ≤ r ↔ x ∈ l.drop i)
  | 0, i, k, hi, hk => by
    obtain ⟨k, rfl⟩ : ∃ m, k = m + 1 := ⟨k - 1, by omega⟩
    refine ⟨-1, by rw [slices_Index_uint16_uint16.l0, if_neg (by omega)], ?_⟩
    rw [List.drop_of_length_le (by omega)]
    simp
  | d + 1, i, k, hi, hk => by
    obtain ⟨k, rfl⟩ : ∃ m, k = m + 1 := ⟨k - 1, by omega⟩
    have hlt : i < l.length := by omega
    have e1 : wrap64 ((i : Int) + 1) = ((i + 1 : Nat) : Int) := by unfold wrap64; omega
    obtain ⟨hr, hd⟩ := Ps.rd_drop l i hlt
    rw [slices_Index_uint16_uint16.l0, e1, hr, hd]
    clear e1
    rw [if_pos (by omega), if_pos (by omega), if_pos (by omega)]
    by_cases h : x = l[i]
    · rw [if_pos h]
      exact ⟨_, rfl, by rw [← h]; simp⟩
    · rw [if_neg h]
      obtain ⟨r, h1, h2⟩ := index_l l x hl d (i + 1) k (by omega) (by omega)
      refine ⟨r, h1, h2.trans ?_⟩
      rw [List.mem_cons]
      exact ⟨Or.inr, fun h' => h'.resolve_left h⟩
theorem cont16_ {A : Option Addr} {n c : Nat} {l : List Int} {x : Int} {W : World} (h : Kd.C (Kd.int .u16) W A l.length l) (hn : l.length = n) (hc : n ≤ c) (hl : n ≤ 1000000) {b : Bool} (hb : decide (x ∈ l) = b) :
    Calls Tryz.prog 92 #[.slice A n c, .int .u16 x] W fun e' w' => e' = .returned (.bool b) ∧ Below W.heap.size W w' := by
  subst hn; subst hb
  refine (slices_Contains_uint16_uint16.calls (l.length + 1) A c l x (decide (x ∈ l)) W h hc ?_).mono (fun _ _ ⟨a, h⟩ => ⟨a, by obtain ⟨m, hm⟩ := h.out; rw [hm]; exact pw_below_drewN (Below.refl _ _) m⟩)
  unfold slices_Contains_uint16_uint16.f slices_Index_uint16_uint16.f
  obtain ⟨r, h1, h2⟩ := index_l l x hl l.length 0 (l.length + 1) (by omega) (by omega)
  change slices_Index_uint16_uint16.l0 _ _ _ _ ((0 : Nat) : Int) = _ at h1
  rw [show (0 : Int) = ((0 : Nat) : Int) from rfl, h1, Option.bind_some]
  rw [List.drop_zero] at h2
  congr 1
  rw [decide_eq_decide]
  exact h2
end Cn
namespace Cn
theorem size1 : (Tryz.prog.info? 5).map (·.size) = some 1 := by kernel_rfl
theorem sizeB : (Tryz.prog.info? 4).map (·.size) = some 1 := by kernel_rfl
theorem sizeEx : (Tryz.prog.info? 47).map (·.size) = some 3 := by kernel_rfl
theorem infoByte : (Tryz.prog.info? 5).map (fun i => (i.zero, i.size, i.bytes)) = some (some (.int .u8 0), 1, 1) := by kernel_rfl
def exc (x : Ex) : List Value := [.int .u32 x.1, .int .u64 x.2.1, .bool x.2.2]
end Cn
theorem close_.calls {W : World} {ok ex : Nat → Prop} {p tb : Nat} {c : Cn.St} (h : Cn.Cn W ok ex p tb c) : Calls Tryz.prog 13 #[.pointer (some ⟨p, 0, none⟩)] W fun e w' => e = .returned (.tuple #[]) ∧ Cn.Cn w' ok ex p tb (Cn.close c) ∧ Cn.Fr W w' ok := by
 obtain ⟨pp, vk, vs, hv⟩ := h
 have HV := az hv
 have HS1 := az Cn.size1
 have HS2 := az Pi.size31
 clear hv
 go_enter Tryz.func13, Tryz.ntmps13
 go_wp2_with (first
  | (refine Wk.store rfl rfl 5 (.tmp 5) (.const (.int .u8 4)) rfl p 5 (.int .u8 4) [.int .u8 4] rfl rfl rfl 61 _ HV.out.blk HS1.out (Nat.le_of_ble_eq_true rfl) rfl ?_; intro w1 hX hO; have HO1 := az hO; have HV1 : Aside0 (Cn.Cv w1 ok ex p tb pp vk vs { c with st := 4 }) := ⟨HV.out.turn hO hX rfl rfl rfl⟩; clear hX hO)
  | (refine Wk.store rfl rfl 35 (.tmp 7) (.const (.slice none 0 0)) rfl p 3 (.slice none 0 0) [.slice none 0 0] rfl rfl rfl 61 _ HV1.out.blk HS2.out (Nat.le_of_ble_eq_true rfl) rfl ?_; intro w2 hX hO; have HO2 := az hO; have HV2 : Aside0 (Cn.Cv w2 ok ex p tb pp (.slice none 0 0) vs { c with st := 4, kept := [] }) := ⟨HV1.out.keeps (W1 := w1) (Kd.R_nil _ _ _ _ _) (World.grownBy.refl _ _) (fun b hb => by cases hb) hO hX rfl rfl rfl⟩; have k0 := HV2.out.blk.at_ 0 rfl; clear hX hO))
 refine (clear_.calls HV2.out.pipe (fun k => (ok k ∨ ex k) ∧ some k ≠ (Value.slice none 0 0).ownBlock ∧ some k ≠ vs.ownBlock)).mono ?_
 rintro e w3 ⟨rfl, hp3, ho3⟩
 have HV3 : Aside0 (Cn.Cv w3 ok ex p tb pp (.slice none 0 0) vs (Cn.close c)) := ⟨HV2.out.piped hp3 ho3.grown ⟨rfl, rfl, rfl, rfl⟩ rfl rfl rfl⟩
 have HF : Aside0 (Cn.Fr W w3 ok) := ⟨((Cn.Fr.of_only HO1.out HV.out.okp).trans (Cn.Fr.of_only HO2.out HV.out.okp)).trans (Cn.Fr.of_only ho3 HV.out.okq)⟩
 clear hp3 ho3
 go_wp2_with fail
 go_end0
 exact ⟨rfl, ⟨pp, _, vs, HV3.out⟩, HF.out⟩
theorem state_.calls {W : World} {ok ex : Nat → Prop} {p tb : Nat} {c : Cn.St} (h : Cn.Cn W ok ex p tb c) : Calls Tryz.prog 12 #[.pointer (some ⟨p, 0, none⟩)] W fun e w' => e = .returned (.int .u8 c.st) ∧ Below W.heap.size W w' := by
 obtain ⟨pp, vk, vs, hv⟩ := h
 have k5 := hv.blk.at_ 5 rfl
 have HB : Aside0 (Below W.heap.size W W) := ⟨Below.refl _ _⟩
 clear hv
 go_enter Tryz.func12, Tryz.ntmps12
 go_wp2_with fail
 go_ret
 exact ⟨rfl, HB.out⟩
theorem waits_.calls {W : World} {ok ex : Nat → Prop} {p tb : Nat} {c : Cn.St} (h : Cn.Cn W ok ex p tb c) (hd : ∀ r ∈ c.rs, r.2.2.2.2.2.length < 140737488355328) : Calls Tryz.prog 11 #[.pointer (some ⟨p, 0, none⟩)] W fun e w' => ∃ A n, e = .returned (.slice A c.rs.length n) ∧ kRq.R 67 w' W.heap.size (fun _ => True) (.slice A c.rs.length n) c.rs ∧ Below W.heap.size W w' := by
 obtain ⟨pp, vk, vs, hv⟩ := h
 have HV := az hv
 have HD := az hd
 have k0 := hv.blk.at_ 0 rfl
 clear hv hd
 go_enter Tryz.func11, Tryz.ntmps11
 go_wp2_with fail
 refine (all_.calls HV.out.pipe HD.out).mono ?_
 rintro e w2 ⟨v, rfl, hR, hb⟩
 obtain ⟨A, n, rfl⟩ := Kd.R_slice hR
 have HR := az hR
 have HB := az hb
 clear hR hb
 go_wp2_with fail
 go_ret
 exact ⟨A, n, rfl, HR.out, HB.out⟩
theorem out_.calls {W : World} {ok ex : Nat → Prop} {p tb : Nat} {c : Cn.St} (h : Cn.Cn W ok ex p tb c) : Calls Tryz.prog 14 #[.pointer (some ⟨p, 0, none⟩)] W fun e w' => ∃ A n, e = .returned (.slice A c.send.length n) ∧ Kd.R (Kd.int .u8) 5 w' 0 ok (.slice A c.send.length n) c.send ∧ Cn.Cn w' ok ex p tb (Cn.out c) ∧ Cn.Fr W w' ok := by
 obtain ⟨pp, vk, vs, hv⟩ := h
 obtain ⟨A, n, rfl⟩ := Kd.R_slice hv.send
 have HV := az hv
 obtain ⟨m, HM⟩ : ∃ m, Aside0 (c.send.length = m) := ⟨_, ⟨rfl⟩⟩
 have k4 := hv.blk.at_ 4 rfl
 rw [HM.out] at k4 ⊢
 have HS2 := az Pi.size31
 clear hv
 go_enter Tryz.func14, Tryz.ntmps14
 go_wp2_with (refine Wk.store rfl rfl 35 (.tmp 10) (.const (.slice none 0 0)) rfl p 4 (.slice none 0 0) [.slice none 0 0] rfl rfl rfl 61 _ HV.out.blk HS2.out (Nat.le_of_ble_eq_true rfl) rfl ?_; intro w2 hX hO; have HO2 := az hO; have HV2 : Aside0 (Cn.Cv w2 ok ex p tb pp vk (.slice none 0 0) (Cn.out c)) := ⟨HV.out.sent (W1 := W) (Kd.R_nil _ _ _ _ _) (World.grownBy.refl _ _) (fun b hb => by cases hb) hO hX rfl rfl rfl⟩; clear hX hO k4)
 go_ret
 refine ⟨A, n, rfl, ?_, ⟨pp, vk, _, HV2.out⟩, Cn.Fr.of_only HO2.out HV.out.okp⟩
 have := Wk.R_only HV.out.send HV.out.blk Cn.ne_conn HO2.out
 rw [HM.out] at this
 exact Kd.R_mono this (fun k hk => hk.1)
namespace Cn
theorem Pp_empty {W : World} {base base' g : Nat} {ok ok' : Nat → Prop} (h : Pi.Pp W base ok g []) (hb : base' ≤ g) : Pi.Pp W base' ok' g [] := by
  obtain ⟨cs, h1, h2, h3, h4, h5, h6⟩ := h.out
  exact ⟨cs, h1, hb, h3, h4, h5, Reps.none _ _⟩
theorem Cv.freshK {W : World} {ok ex : Nat → Prop} {p tb pp : Nat} {vk vs : Value} {c : St} (h : Cv W ok ex p tb pp vk vs c) (hf : ∀ k, W.heap.size ≤ k → ok k) : ∀ k, W.heap.size ≤ k → ok k ∧ some k ≠ vk.ownBlock := fun k hk => ⟨hf k hk, fun he => by have := ((Kd.R_bound h.kept).1 k he.symm).2.2.1; omega⟩
theorem Cv.freshS {W : World} {ok ex : Nat → Prop} {p tb pp : Nat} {vk vs : Value} {c : St} (h : Cv W ok ex p tb pp vk vs c) (hf : ∀ k, W.heap.size ≤ k → ok k) : ∀ k, W.heap.size ≤ k → ok k ∧ some k ≠ vs.ownBlock := fun k hk => ⟨hf k hk, fun he => by have := ((Kd.R_bound h.send).1 k he.symm).2.2.1; omega⟩
theorem Cv.freshP {W : World} {ok ex : Nat → Prop} {p tb pp : Nat} {vk vs : Value} {c : St} (h : Cv W ok ex p tb pp vk vs c) (hf : ∀ k, W.heap.size ≤ k → ok k) : ∀ k, W.heap.size ≤ k → (ok k ∨ ex k) ∧ some k ≠ vk.ownBlock ∧ some k ≠ vs.ownBlock := fun k hk => ⟨.inl (hf k hk), (h.freshK hf k hk).2, (h.freshS hf k hk).2⟩
theorem Cv.okS {W : World} {ok ex : Nat → Prop} {p tb pp : Nat} {vk vs : Value} {c : St} (h : Cv W ok ex p tb pp vk vs c) : ∀ k, vs.ownBlock = some k → ok k := fun k hk => (h.send.1 k hk).1
theorem hat_of {v v1 : Value} {W : World} (h : v1.ownBlock = v.ownBlock ∨ ∃ b, v1.ownBlock = some b ∧ W.heap.size ≤ b) : ∀ b, v1.ownBlock = some b → v.ownBlock = some b ∨ W.heap.size ≤ b := fun b hb => by
  rcases h with h | ⟨b', h, hl⟩
  · exact .inl (h ▸ hb)
  · rw [h] at hb; cases hb; exact .inr hl
end Cn
theorem newconn_.calls (W : World) (tb : Nat) (b : Int) : Calls Tryz.prog 8 #[.pointer (some ⟨tb, 0, none⟩), .int .i64 b] W fun e w' => ∃ p, e = .returned (.pointer (some ⟨p, 0, none⟩)) ∧ Cn.Cn w' (fun k => W.heap.size ≤ k) (fun _ => False) p tb (Cn.new b) ∧ Below W.heap.size W w' := by
 go_enter Tryz.func8, Tryz.ntmps8
 go_wp2_with fail
 refine (pnew_.calls (fun _ => True) W).mono ?_
 rintro e w1 ⟨rfl, hp1, hb1⟩
 have HP1 := az hp1
 have HB1 := az hb1
 have HLT : Aside0 (W.heap.size < w1.heap.size) := ⟨hp1.lt⟩
 clear hp1 hb1
 go_wp2_with fail
 refine (Cn.hello_ w1).mono ?_
 rintro e w2 ⟨A2, c2, rfl, hR2, hb2⟩
 obtain ⟨m, HM⟩ : ∃ m, Aside0 (Cn.hello.length = m) := ⟨_, ⟨rfl⟩⟩
 rw [HM.out] at hR2 ⊢
 have HR2 := az hR2
 have HP2 := az (HP1.out.below hb2)
 have HB2 := az (below_then HB1.out HB1.out.size hb2)
 have HS2 : Aside0 (w1.heap.size ≤ w2.heap.size) := ⟨hb2.size⟩
 clear hR2 hb2 HP1
 have HA : Aside0 (Below w2.heap.size w2 (w2.alloc (.cells (Cn.cc W.heap.size tb b (.slice none 0 0) (.slice A2 m c2) 1 Cn.ex0 false).toArray 61))) := ⟨below_alloc (Below.refl _ _) _⟩
 have HX : Aside0 (Wk.Blk (w2.alloc (.cells (Cn.cc W.heap.size tb b (.slice none 0 0) (.slice A2 m c2) 1 Cn.ex0 false).toArray 61)) w2.heap.size 61 (Cn.cc W.heap.size tb b (.slice none 0 0) (.slice A2 m c2) 1 Cn.ex0 false)) := ⟨Wk.Blk.new w2 _ _⟩
 go_wp2_with fail
 go_ret
 refine ⟨w2.heap.size, rfl, ⟨W.heap.size, _, _, HX.out, ?_, Nat.le_refl _, Kd.R_nil _ _ _ _ _, ?_, ?_⟩, below_then HB2.out HB2.out.size HA.out⟩
 ·exact HB2.out.size
 ·have := Kd.R_bound (Kd.R_below HR2.out HA.out)
  exact Kd.R_lower (Kd.R_mono this (fun k hk => ⟨Nat.le_trans (Nat.le_of_lt HLT.out) hk.2.1, fun he => by cases he⟩)) (Nat.zero_le _)
 ·exact Cn.Pp_empty (HP2.out.below HA.out) (Nat.zero_le _)
theorem reply_.calls {W : World} {ok ex : Nat → Prop} {p tb : Nat} {c : Cn.St} (h : Cn.Cn W ok ex p tb c) (hf : ∀ k, W.heap.size ≤ k → ok k) {Ad A : Option Addr} {nd cd n cp : Nat} {o k : Int} {d : List Int} (ho : 0 ≤ o ∧ o < 4294967296) (hk : 0 ≤ k ∧ k < 4294967296) (hd : Kd.C (Kd.int .u8) W A d.length d) (hn : d.length = n) (hc : n ≤ cp) (hl : n ≤ 1000000) (hs : c.send.length ≤ 10000000000000) :
  Calls Tryz.prog 71 #[.pointer (some ⟨p, 0, none⟩), .agg #[.int .u32 o, .slice Ad nd cd], .int .u32 k, .slice A n cp] W fun e w' => e = .returned (.tuple #[]) ∧ Cn.Cn w' ok ex p tb (Cn.say c o k d) ∧ Cn.Fr W w' ok := by
 obtain ⟨pp, vk, vs, hv⟩ := h
 have HV := az hv
 have HF := az hf
 have HO := az ho
 have HK := az hk
 have HD := az hd
 have HN := az hn
 have HCP := az (And.intro hc hl)
 have HS := az hs
 have HS2 := az Pi.size31
 clear hv hf ho hk hd hn hc hl hs
 have HB1 : Aside0 (Below W.heap.size W (W.alloc (.cells #[.int .u32 o, .slice Ad nd cd] 103))) := ⟨below_alloc (Below.refl _ _) _⟩
 have HX1 : Aside0 (Wk.Blk (W.alloc (.cells #[.int .u32 o, .slice Ad nd cd] 103)) W.heap.size 103 [.int .u32 o, .slice Ad nd cd]) := ⟨Wk.Blk.new W _ [.int .u32 o, .slice Ad nd cd]⟩
 go_enter Tryz.func71, Tryz.ntmps71
 go_wp2_with fail
 generalize W.alloc (.cells #[.int .u32 o, .slice Ad nd cd] 103) = w1 at *
 have HV1 := az (HV.out.below HB1.out)
 refine wp_region_noPanic ?_
 refine Rg.s1 14 (fun w' => Below w1.heap.size w1 w') [10, 13] (Below.refl _ _).drew #[false, false, false, false, false, false, false, false, false, false, false, false, false, false] (fun hHeld => ?_)
 refine Rg.p1 0 (.some 8) ?_
 refine Rg.p1 1 (.some 9) ?_
 refine Rg.p1 2 (.some 10) ?_
 refine Rg.p1 3 (.some 11) ?_
 refine Rg.t1 4 (.some 12) hHeld ?_ (hy := by intro w' hS'; (have c1 := (HV1.out.below hS').blk.at_ 4 rfl; go_simp); first | done | with_reducible rfl)
 refine Rg.p1 5 (.some 13) ?_
 refine Rg.t1 6 (.some 14) hHeld ?_ (hy := by intro w' hS'; (have c1 := (HX1.out.below_ hS').at_ 0 rfl; go_simp); first | done | with_reducible rfl)
 refine Rg.p1 7 (.some 15) ?_
 refine Rg.p1 8 (.some 16) ?_
 refine Rg.o1 9 (.some 17) (fun K hK => ?_)
 refine call_ 85 #[.int .u32 o, .int .u32 k, .slice A n cp] (by rfl) rfl (by go_simp) ?_
 refine (Cn.rep_ HO.out HK.out (Kd.C_below HD.out (below_then HB1.out HB1.out.size hHeld)) HN.out HCP.out.1 HCP.out.2).mono ?_
 rintro e w2 ⟨A2, c2, rfl, hR2, hb2⟩
 have HR2 := az hR2
 have HB2 := az (below_then hHeld hHeld.size hb2)
 clear hR2 hb2
 refine ⟨_, rfl, ?_⟩
 refine hK.out _ _ HB2.out (fun hHeld => ?_)
 clear hK K
 refine Rg.n1 ?_
 have HV2 := az (HV1.out.below HB2.out)
 have HBW := az (below_then HB1.out HB1.out.size HB2.out)
 have HLR : Aside0 ((Cn.rep o k d).length ≤ 2000000) := ⟨by
  have := Cn.packs_len4 [8, 4, 4, 4] [1100100111001001, o, k, (d.length : Int)] (by simp)
  have := HN.out
  have := HCP.out
  unfold Cn.rep
  rw [List.length_append]
  omega⟩
 have HFS : Aside0 (∀ j, w2.heap.size ≤ j → ok j ∧ some j ≠ vk.ownBlock) := ⟨HV2.out.freshK (fun j hj => HF.out j (Nat.le_trans HBW.out.size hj))⟩
 refine Rg.l1 10 (.some 18) (fun K hK => ?_)
 refine Kd.R_append_rows_step (Kd.int .u8) (w0 := w2) (W := w2) 0 (by rfl) (.tmp 12) (.tmp 17) 35 5 (.int .u8 0) 1 rfl Tryz.underlying35 Cn.infoByte rfl (by decide) (by omega) vs c.send (Cn.rep o k d) A2 _ c2 (fun k => ok k ∧ some k ≠ vk.ownBlock) (fun _ => False) rfl rfl HV2.out.send (Kd.R_reads' HR2.out).2.2 (fun _ _ h => h) (fun _ h => h.elim) HFS.out (Below.refl _ _) (Nat.zero_le _) (by have := HS.out; have := HLR.out; omega) ?_
 intro v3 w3 hr3 _ hg3 hat3
 obtain ⟨A3, c3, hv3⟩ := Kd.R_slice hr3
 obtain ⟨L3, HL3⟩ : ∃ L, Aside0 ((c.send ++ Cn.rep o k d).length = L) := ⟨_, ⟨rfl⟩⟩
 rw [HL3.out] at hv3
 subst hv3
 have HR3 := az hr3
 have HG3 := az hg3
 have HA3 := az (Cn.hat_of hat3)
 have HX3 := az (HV2.out.blk.grown hg3 (Kd.R_ne HV2.out.send HV2.out.blk.out (by decide)))
 clear hr3 hg3 hat3
 refine hK.out _ _ ?_
 clear hK K
 refine Rg.n1 ?_
 refine Rg.p1 11 (.some 19) ?_
 refine Rg.p1 12 (.some 20) ?_
 refine Rg.l1 13 none (fun K hK => ?_)
 refine Wk.store_step (by rfl) rfl 35 (.tmp 20) (.tmp 18) rfl p 4 (.slice A3 L3 c3) [.slice A3 L3 c3] rfl rfl rfl 61 _ HX3.out HS2.out (Nat.le_of_ble_eq_true rfl) rfl ?_
 intro w4 hX hO
 have HO4 := az hO
 have HV4 : Aside0 (Cn.Cv w4 ok ex p tb pp vk (.slice A3 L3 c3) (Cn.say c o k d)) := ⟨HV2.out.sent HR3.out HG3.out HA3.out hO hX rfl rfl rfl⟩
 clear hX hO
 refine hK.out _ _ ?_
 clear hK K
 refine Rg.d1 ?_
 refine NoPanic.normal ?_
 go_wp2_with fail
 go_end0
 exact ⟨rfl, ⟨pp, _, _, HV4.out⟩, ((Cn.Fr.of_below HBW.out ok).trans (Cn.Fr.of_grown HG3.out HV2.out.okS)).trans (Cn.Fr.of_only HO4.out HV2.out.okp)⟩
end Go.Proofs.YtgljicdpcapgnaaGreatDoor
namespace Go.Proofs.YtgljicdpcapgnaaGreatDoor
open Go.RowKit Go.Proofs.YtgljicdpcapgnaaGreatDoorW.PrintWords Go.Proofs.YtgljicdpcapgnaaGreatDoorW.PrintLast Go.Proofs.YtgljicdpcapgnaaGreatDoorW.PrintMore
namespace Cn
section
variable {W W' W1 W2 : World} {ok ok' ex ex' : Nat → Prop} {p tb pp : Nat} {vk vs vp : Value} {c : St}
def rc (pp tb : Nat) (blk : Int) (vk vs : Value) (st : Int) (ex : Ex) (sh : Bool) : List Value := [.pointer (some ⟨tb, 0, none⟩), .int .i64 blk, vk, vs, .pointer (some ⟨pp, 0, none⟩), .int .u8 st, .int .u32 ex.1, .int .u64 ex.2.1, .bool ex.2.2, .bool sh]
structure Rv (W : World) (ok ex : Nat → Prop) (p tb pp : Nat) (vk vs vp : Value) (c : St) : Prop where mk_ ::
  blk : Wk.Blk W p 65 (rc pp tb c.blk vk vs c.st c.ex c.sh)
  okp : ok p
  okq : ok pp
  okr : ∀ k, vp.ownBlock = some k → ok k
  kept : Kd.R (Kd.int .u8) 5 W 0 (fun k => ok k ∧ some k ≠ vs.ownBlock) vk c.kept
  send : Kd.R (Kd.int .u8) 5 W 0 (fun k => ok k ∧ some k ≠ vk.ownBlock) vs c.send
  pb : Wk.Blk W pp 91 [vp]
  few : c.rs.length ≤ 16
  row : kRq.R 67 W 0 (fun k => (ok k ∨ ex k) ∧ some k ≠ vk.ownBlock ∧ some k ≠ vs.ownBlock) vp c.rs
def Rn (W : World) (ok ex : Nat → Prop) (p tb : Nat) (c : St) : Prop := ∃ pp vk vs vp, Rv W ok ex p tb pp vk vs vp c
theorem ne_rconn : ∀ q, q ∈ 5 :: (Kd.int .u8).E → q ≠ 65 := by decide
theorem kRq_rconn : ∀ q, q ∈ 67 :: kRq.E → q ≠ 65 := by decide
theorem Rv.frame (h : Rv W ok ex p tb pp vk vs vp c) (hf : Fr W W' ok') (hd : ∀ k, ok k ∨ ex k → ¬ ok' k) : Rv W' ok ex p tb pp vk vs vp c :=
  ⟨⟨(hf.block p h.blk.lt (hd p (.inl h.okp))).trans h.blk.out⟩, h.okp, h.okq, h.okr, Kd.R_step h.kept (fun k ho hk => hf.block k hk (hd k (.inl ho.1))), Kd.R_step h.send (fun k ho hk => hf.block k hk (hd k (.inl ho.1))),
    ⟨(hf.block pp h.pb.lt (hd pp (.inl h.okq))).trans h.pb.out⟩, h.few, Kd.R_step h.row (fun k ho hk => hf.block k hk (hd k ho.1))⟩
theorem Rv.below (h : Rv W ok ex p tb pp vk vs vp c) (hb : Below W.heap.size W W') : Rv W' ok ex p tb pp vk vs vp c := h.frame (Fr.of_below hb (fun _ => False)) (fun _ _ hh => hh)
theorem Rn.frame (h : Rn W ok ex p tb c) (hf : Fr W W' ok') (hd : ∀ k, ok k ∨ ex k → ¬ ok' k) : Rn W' ok ex p tb c := by
  obtain ⟨pp, vk, vs, vp, h⟩ := h
  exact ⟨pp, vk, vs, vp, h.frame hf hd⟩
theorem Rn.below (h : Rn W ok ex p tb c) (hb : Below W.heap.size W W') : Rn W' ok ex p tb c := h.frame (Fr.of_below hb (fun _ => False)) (fun _ _ hh => hh)
theorem Rv.bound (h : Rv W ok ex p tb pp vk vs vp c) : Rv W (fun k => ok k ∧ k < W.heap.size) (fun k => ex k ∧ k < W.heap.size) p tb pp vk vs vp c :=
  ⟨h.blk, ⟨h.okp, h.blk.lt⟩, ⟨h.okq, h.pb.lt⟩, fun k hk => ⟨h.okr k hk, ((Kd.R_bound h.row).1 k hk).2.2.1⟩, Kd.R_mono (Kd.R_bound h.kept) (fun k hk => ⟨⟨hk.1.1, hk.2.2.1⟩, hk.1.2⟩), Kd.R_mono (Kd.R_bound h.send) (fun k hk => ⟨⟨hk.1.1, hk.2.2.1⟩, hk.1.2⟩), h.pb, h.few,
    Kd.R_mono (Kd.R_bound h.row) (fun k hk => ⟨hk.1.1.imp (fun h => ⟨h, hk.2.2.1⟩) (fun h => ⟨h, hk.2.2.1⟩), hk.1.2⟩)⟩
theorem Rv.mono (h : Rv W ok ex p tb pp vk vs vp c) (ho : ∀ k, ok k → ok' k) (hx : ∀ k, ex k → ok' k ∨ ex' k) : Rv W ok' ex' p tb pp vk vs vp c :=
  ⟨h.blk, ho p h.okp, ho pp h.okq, fun k hk => ho k (h.okr k hk), Kd.R_mono h.kept (fun k hk => ⟨ho k hk.1, hk.2⟩), Kd.R_mono h.send (fun k hk => ⟨ho k hk.1, hk.2⟩), h.pb, h.few, Kd.R_mono h.row (fun k hk => ⟨hk.1.elim (fun h => .inl (ho k h)) (hx k), hk.2⟩)⟩
theorem Rn.bound (h : Rn W ok ex p tb c) : Rn W (fun k => ok k ∧ k < W.heap.size) (fun k => ex k ∧ k < W.heap.size) p tb c := by
  obtain ⟨pp, vk, vs, vp, h⟩ := h
  exact ⟨pp, vk, vs, vp, h.bound⟩
theorem Rn.mono (h : Rn W ok ex p tb c) (ho : ∀ k, ok k → ok' k) (hx : ∀ k, ex k → ok' k ∨ ex' k) : Rn W ok' ex' p tb c := by
  obtain ⟨pp, vk, vs, vp, h⟩ := h
  exact ⟨pp, vk, vs, vp, h.mono ho hx⟩
theorem Rv.turn {c' : St} (h : Rv W ok ex p tb pp vk vs vp c) (hO : Wk.Only W W' p) (hX : Wk.Blk W' p 65 (rc pp tb c'.blk vk vs c'.st c'.ex c'.sh)) (e1 : c'.kept = c.kept) (e2 : c'.send = c.send) (e3 : c'.rs = c.rs) : Rv W' ok ex p tb pp vk vs vp c' :=
  ⟨hX, h.okp, h.okq, h.okr, by rw [e1]; exact Wk.R_only h.kept h.blk ne_rconn hO, by rw [e2]; exact Wk.R_only h.send h.blk ne_rconn hO, h.pb.only hO (h.pb.ne_ h.blk (by decide)), by rw [e3]; exact h.few, by rw [e3]; exact Wk.R_only h.row h.blk kRq_rconn hO⟩
theorem Rv.sent {v1 : Value} {s1 : List Int} {c' : St} (h : Rv W ok ex p tb pp vk vs vp c) (hR : Kd.R (Kd.int .u8) 5 W1 0 (fun k => ok k ∧ some k ≠ vk.ownBlock) v1 s1) (hg : W.grownBy W1 vs.ownBlock) (hat : ∀ b, v1.ownBlock = some b → vs.ownBlock = some b ∨ W.heap.size ≤ b)
    (hO : Wk.Only W1 W2 p) (hX : Wk.Blk W2 p 65 (rc pp tb c'.blk vk v1 c'.st c'.ex c'.sh)) (e1 : c'.kept = c.kept) (e2 : c'.send = s1) (e3 : c'.rs = c.rs) : Rv W2 ok ex p tb pp vk v1 vp c' := by
  have hb1 : Wk.Blk W1 p 65 (rc pp tb c.blk vk vs c.st c.ex c.sh) := h.blk.grown hg (Kd.R_ne h.send h.blk.out (by decide))
  have hb2 : Wk.Blk W1 pp 91 [vp] := h.pb.grown hg (Kd.R_ne h.send h.pb.out (by decide))
  have ne : ∀ k, k < W.heap.size → some k ≠ vs.ownBlock → some k ≠ v1.ownBlock := fun k hk hn he => by
    rcases hat k he.symm with h1 | h1
    · exact hn h1.symm
    · omega
  refine ⟨hX, h.okp, h.okq, h.okr, ?_, ?_, hb2.only hO (h.pb.ne_ h.blk (by decide)), by rw [e3]; exact h.few, ?_⟩
  · rw [e1]
    refine Wk.R_only ?_ hb1 ne_rconn hO
    exact Kd.R_mono (Kd.R_grown (Kd.R_bound h.kept) hg (fun k hk => hk.1.2)) (fun k hk => ⟨hk.1.1, ne k hk.2.2.1 hk.1.2⟩)
  · rw [e2]
    exact Wk.R_only hR hb1 ne_rconn hO
  · rw [e3]
    refine Wk.R_only ?_ hb1 kRq_rconn hO
    exact Kd.R_mono (Kd.R_grown (Kd.R_bound h.row) hg (fun k hk => hk.1.2.2)) (fun k hk => ⟨hk.1.1, hk.1.2.1, ne k hk.2.2.1 hk.1.2.2⟩)
theorem Rv.keeps {v1 : Value} {s1 : List Int} {c' : St} (h : Rv W ok ex p tb pp vk vs vp c) (hR : Kd.R (Kd.int .u8) 5 W1 0 (fun k => ok k ∧ some k ≠ vs.ownBlock) v1 s1) (hg : W.grownBy W1 vk.ownBlock) (hat : ∀ b, v1.ownBlock = some b → vk.ownBlock = some b ∨ W.heap.size ≤ b)
    (hO : Wk.Only W1 W2 p) (hX : Wk.Blk W2 p 65 (rc pp tb c'.blk v1 vs c'.st c'.ex c'.sh)) (e1 : c'.kept = s1) (e2 : c'.send = c.send) (e3 : c'.rs = c.rs) : Rv W2 ok ex p tb pp v1 vs vp c' := by
  have hb1 : Wk.Blk W1 p 65 (rc pp tb c.blk vk vs c.st c.ex c.sh) := h.blk.grown hg (Kd.R_ne h.kept h.blk.out (by decide))
  have hb2 : Wk.Blk W1 pp 91 [vp] := h.pb.grown hg (Kd.R_ne h.kept h.pb.out (by decide))
  have ne : ∀ k, k < W.heap.size → some k ≠ vk.ownBlock → some k ≠ v1.ownBlock := fun k hk hn he => by
    rcases hat k he.symm with h1 | h1
    · exact hn h1.symm
    · omega
  refine ⟨hX, h.okp, h.okq, h.okr, ?_, ?_, hb2.only hO (h.pb.ne_ h.blk (by decide)), by rw [e3]; exact h.few, ?_⟩
  · rw [e1]
    exact Wk.R_only hR hb1 ne_rconn hO
  · rw [e2]
    refine Wk.R_only ?_ hb1 ne_rconn hO
    exact Kd.R_mono (Kd.R_grown (Kd.R_bound h.send) hg (fun k hk => hk.1.2)) (fun k hk => ⟨hk.1.1, ne k hk.2.2.1 hk.1.2⟩)
  · rw [e3]
    refine Wk.R_only ?_ hb1 kRq_rconn hO
    exact Kd.R_mono (Kd.R_grown (Kd.R_bound h.row) hg (fun k hk => hk.1.2.1)) (fun k hk => ⟨hk.1.1, ne k hk.2.2.1 hk.1.2.1, hk.1.2.2⟩)
theorem Rv.piped {rs' : List Rq} {c' : St} {v1 : Value} (h : Rv W ok ex p tb pp vk vs vp c) (hT : Pi.Ty W W1 0 [67, 91]) (hpb : Wk.Blk W1 pp 91 [v1]) (hl : rs'.length ≤ 16) (hP : kRq.R 67 W1 0 (fun k => (ok k ∨ ex k) ∧ some k ≠ vk.ownBlock ∧ some k ≠ vs.ownBlock) v1 rs') (hok : ∀ k, v1.ownBlock = some k → ok k)
    (e0 : c'.blk = c.blk ∧ c'.st = c.st ∧ c'.ex = c.ex ∧ c'.sh = c.sh) (e1 : c'.kept = c.kept) (e2 : c'.send = c.send) (e3 : c'.rs = rs') : Rv W1 ok ex p tb pp vk vs v1 c' := by
  obtain ⟨e4, e5, e6, e7⟩ := e0
  exact ⟨by rw [e4, e5, e6, e7]; exact ⟨(hT.keep _ _ _ h.blk.out (by decide)).trans h.blk.out⟩, h.okp, h.okq, hok, by rw [e1]; exact Pi.R_ty h.kept hT (by decide), by rw [e2]; exact Pi.R_ty h.send hT (by decide), hpb, by rw [e3]; exact hl, by rw [e3]; exact hP⟩
theorem Rv.freshK (h : Rv W ok ex p tb pp vk vs vp c) (hf : ∀ k, W.heap.size ≤ k → ok k) : ∀ k, W.heap.size ≤ k → ok k ∧ some k ≠ vk.ownBlock := fun k hk => ⟨hf k hk, fun he => by have := ((Kd.R_bound h.kept).1 k he.symm).2.2.1; omega⟩
theorem Rv.freshS (h : Rv W ok ex p tb pp vk vs vp c) (hf : ∀ k, W.heap.size ≤ k → ok k) : ∀ k, W.heap.size ≤ k → ok k ∧ some k ≠ vs.ownBlock := fun k hk => ⟨hf k hk, fun he => by have := ((Kd.R_bound h.send).1 k he.symm).2.2.1; omega⟩
theorem Rv.freshP (h : Rv W ok ex p tb pp vk vs vp c) (hf : ∀ k, W.heap.size ≤ k → ok k) : ∀ k, W.heap.size ≤ k → (ok k ∨ ex k) ∧ some k ≠ vk.ownBlock ∧ some k ≠ vs.ownBlock := fun k hk => ⟨.inl (hf k hk), (h.freshK hf k hk).2, (h.freshS hf k hk).2⟩
theorem Rv.okS (h : Rv W ok ex p tb pp vk vs vp c) : ∀ k, vs.ownBlock = some k → ok k := fun k hk => (h.send.1 k hk).1
theorem Rv.rf (h : Rv W ok ex p tb pp vk vs vp c) : Pi.Rf W 0 (fun k => (ok k ∨ ex k) ∧ some k ≠ vk.ownBlock ∧ some k ≠ vs.ownBlock) pp c.rs := ⟨vp, h.pb, Nat.zero_le _, h.few, h.row⟩
end
end Cn
theorem Cn.radd_ {W : World} {ok : Nat → Prop} {g : Nat} {rs : List Rq} {r : Rq} {cs : List Value} {v : Value} (hB : Wk.Blk W g 91 [v]) (hRR : kRq.R 67 W 0 ok v rs) (h16 : rs.length < 16) (hr : kRq.K W r cs) (hl : r.2.2.2.2.2.length < 140737488355328) (hf : ∀ k, W.heap.size ≤ k → ok k) :
  Calls Tryz.prog 69 #[.pointer (some ⟨g, 0, none⟩), .agg cs.toArray] W fun e w' => e = .returned (.bool true) ∧ ∃ v', Wk.Blk w' g 91 [v'] ∧ kRq.R 67 w' 0 ok v' (rs ++ [r]) ∧ (∀ k, v'.ownBlock = some k → v.ownBlock = some k ∨ W.heap.size ≤ k) ∧ Pi.Ty W w' 0 [67, 91] ∧ Cn.Fr W w' (fun k => k = g ∨ v.ownBlock = some k) := by
 have h : Pi.Rf W 0 ok g rs := ⟨v, hB, Nat.zero_le _, Nat.le_of_lt h16, hRR⟩
 obtain ⟨A, c, rfl, hlc, hC⟩ := rq_cells hr
 obtain ⟨fl, kd, ck, off, len, data⟩ := r
 have HP := az h
 have HR := az hr
 have HL := az hl
 have HF := az hf
 show Calls _ _ #[.pointer (some ⟨g, 0, none⟩), .agg #[.int .u16 fl, .int .u16 kd, .int .u64 ck, .int .u64 off, .int .u32 len, .slice A data.length c]] _ _
 obtain ⟨n, HN⟩ : ∃ n, Aside0 (data.length = n) := ⟨_, ⟨rfl⟩⟩
 obtain ⟨m, HM⟩ : ∃ n, Aside0 (rs.length = n) := ⟨_, ⟨rfl⟩⟩
 have hlt : m < 16 := by rw [← HM.out]; exact h16
 rw [HN.out]
 obtain ⟨A1, c1, rfl⟩ := Kd.R_slice hRR
 have HBV := az hB
 have HRV := az hRR
 clear h hr hl hf hC hlc hB hRR h16
 go_enter Tryz.func69, Tryz.ntmps69
 go_wp2_with fail
 generalize hWq : World.alloc W _ = W1
 have HB1 : Aside0 (Below W.heap.size W W1) := ⟨by rw [← hWq]; exact below_alloc (Below.refl _ _) _⟩
 have HX1 : Aside0 (Wk.Blk W1 W.heap.size 67 (Pi.rqc fl kd ck off len (.slice A n c))) := ⟨by rw [← hWq]; exact Wk.Blk.new W _ (Pi.rqc fl kd ck off len (.slice A n c))⟩
 clear hWq
 have HP1 := az (HP.out.below HB1.out)
 refine (rfull_.calls HP1.out).mono ?_
 rintro e w' ⟨rfl, rfl⟩
 rw [HM.out]
 have h16 : m ≠ 16 := by omega
 rw [decide_eq_false h16]
 have HSZ := az Pi.size33
 rw [HM.out] at HBV HRV
 have HZ4 := az (HBV.out.below_ HB1.out)
 have HZ5 := az (Kd.R_below HRV.out HB1.out)
 have HZ1 := az (HZ4.out.at_ 0 rfl)
 have HGL := az HZ4.out.lt
 have HS22 := az Pi.size22
 have HLM : Aside0 ((rs.length + 1) * 56 ≤ 140737488355328) := ⟨by rw [HM.out]; omega⟩
 go_wp2_with fail
 refine wp_region_noPanic ?_
 refine Rg.s1 12 (fun w' => Below W1.heap.size W1 w') [8, 11] (Below.refl _ _).drew #[false, false, false, false, false, false, false, false, false, false, false, false] (fun hHeld => ?_)
 refine Rg.p1 0 (.some 9) ?_
 refine Rg.p1 1 (.some 10) ?_
 refine Rg.p1 2 (.some 11) ?_
 refine Rg.p1 3 (.some 12) ?_
 refine Rg.t1 4 (.some 13) hHeld ?_ (hy := by intro w' hS'; (have c1 := (hS'.cell (p := ⟨g, 0, none⟩) HGL.out).trans HZ1.out; go_simp); first | done | with_reducible rfl)
 refine Rg.t1 5 (.some 14) hHeld ?_ (hy := by intro w' hS'; (have hl := Wk.run_load_blk (P := Tryz.prog) 67 W.heap.size 0 (Pi.rqc fl kd ck off len (.slice A n c)) _ (HX1.out.below_ hS') rfl Tryz.underlying67 rfl HSZ.out; refine (Wk.exec_load 67 (.tmp 3) rfl _ _ rfl hl).trans ?_); first | done | with_reducible rfl)
 refine Rg.o1 6 (.some 15) (fun K hK => ?_)
 refine call_ 54 #[.agg (Pi.rqc fl kd ck off len (.slice A n c)).toArray] (by rfl) rfl (by go_simp) ?_
 have hK : kRq.K W1.drew (fl, kd, ck, off, len, data) (Pi.rqc fl kd ck off len (.slice A n c)) := by
  have := kRq.K_below (w1 := W1.drew) (below_drew HB1.out) HR.out
  rw [← HN.out]
  exact this
 refine (rlent_.calls hK HL.out).mono ?_
 rintro e w2 ⟨cs2, rfl, hM, hb2⟩
 obtain ⟨v2, rfl, hR2⟩ := Pi.rq_Mc hM
 obtain ⟨A2, c2, rfl⟩ := Kd.R_slice hR2
 rw [show ((fl, kd, ck, off, len, data) : Rq).2.2.2.2.2 = data from rfl, HN.out] at hM ⊢
 have HM2 := az hM
 have HBD := az hb2
 have HB2 := az (below_then hHeld hHeld.size hb2)
 clear hM hb2 hK hR2
 unfold Pi.rqc
 refine ⟨_, rfl, ?_⟩
 refine hK.out _ _ HB2.out (fun hHeld => ?_)
 clear hK K
 refine Rg.n1 ?_
 refine Rg.o1 7 (.some 16) (fun K hK => ?_)
 refine value_ (w1 := w2.alloc (.cells (Pi.rqc fl kd ck off len (.slice A2 n c2)).toArray 67)) (v := .slice (some ⟨w2.heap.size, 0, none⟩) 1 1) (by rfl) rfl (by go_simp; rfl) ?_
 refine hK.out _ _ (hHeld.alloc hHeld.size _) (fun hHeld => ?_)
 clear hK K
 refine Rg.n1 ?_
 have HRO : Aside0 (kRq.R 67 w2 0 ok (.slice A1 m c1) rs) := ⟨Kd.R_below HZ5.out HB2.out⟩
 have HBB : Aside0 (Below 0 W w2 ∧ 0 ≤ w2.heap.size) := ⟨(below_then HB1.out HB1.out.size HB2.out).mono (Nat.zero_le _), Nat.zero_le _⟩
 have HFW : Aside0 (∀ k, w2.heap.size ≤ k → ok k) := ⟨fun k hk => HF.out k (Nat.le_trans HB1.out.size (Nat.le_trans HB2.out.size hk))⟩
 have HMM : Aside0 (kRq.M w2 0 (fun k => ok k ∧ some k ≠ (Value.slice A1 m c1).ownBlock) (fl, kd, ck, off, len, data) (Pi.rqc fl kd ck off len (.slice A2 n c2))) := ⟨by
  obtain ⟨inner, hown⟩ := Kd.R_own (Kd.R_below HZ5.out ((Below.refl _ _).drew (w := W1)))
  exact kRq.M_lower (Nat.zero_le _) (kRq.M_mono (fun k hk => ⟨HF.out k (Nat.le_trans HB1.out.size hk.2.1), hk.1.2⟩) (kRq.M_bound (Kd.M_new HM2.out hown)))⟩
 refine Rg.l1 8 (.some 17) (fun K hK => ?_)
 refine Kd.R_append_step kRq (w0 := W) (W := w2) 0 (by rfl) (.tmp 13) (.tmp 16) 39 67 (.agg Pi.zrq.toArray) 56 rfl Tryz.underlying39 Pi.info33 rfl (by decide) (by omega) (.slice A1 m c1) rs (fl, kd, ck, off, len, data) (Pi.rqc fl kd ck off len (.slice A2 n c2)) ok (fun k => ok k ∧ some k ≠ (Value.slice A1 m c1).ownBlock) rfl rfl HMM.out (fun _ h => h) HFW.out HRO.out HBB.out.1 HBB.out.2 HLM.out ?_
 intro v3 w3 hr3 hb3 hg3 ha3
 obtain ⟨A3, c3, rfl⟩ := Kd.R_slice hr3
 have HR3 := az hr3
 have HB3 := az hb3
 have HGW := az hg3
 have HAT := az (Cn.hat_of ha3)
 have HG3 := az ((HZ4.out.below_ HB2.out).grown hg3 (Kd.R_ne HRO.out (HZ4.out.below_ HB2.out).out (by decide)))
 clear hr3 hb3 hg3 ha3
 refine hK.out _ _ ?_
 clear hK K
 refine Rg.n1 ?_
 refine Rg.p1 9 (.some 18) ?_
 refine Rg.p1 10 (.some 19) ?_
 refine Rg.l1 11 none (fun K hK => ?_)
 refine Wk.store_step (by rfl) rfl 39 (.tmp 19) (.tmp 17) rfl g 0 (.slice A3 (rs ++ [((fl, kd, ck, off, len, data) : Rq)]).length c3) [.slice A3 (rs ++ [((fl, kd, ck, off, len, data) : Rq)]).length c3] rfl rfl rfl 91 _ HG3.out HS22.out (Nat.le_refl 1) rfl ?_
 intro w4 hX4 hO4
 have HX4 := az (show Wk.Blk w4 g 91 [.slice A3 (rs ++ [((fl, kd, ck, off, len, data) : Rq)]).length c3] from hX4)
 have HO4 := az hO4
 clear hX4 hO4
 refine hK.out _ _ ?_
 clear hK K
 refine Rg.d1 ?_
 refine NoPanic.normal ?_
 go_wp2_with fail
 go_ret
 have hkeep : ∀ k, k < W.heap.size → k ≠ g → some k ≠ (Value.slice A1 m c1).ownBlock → w4.heap[k]? = W.heap[k]? := fun k hkl hne hne1 => by
  have hW2 : w2.heap[k]? = W.heap[k]? := (below_then HB1.out HB1.out.size HB2.out).block k hkl
  have hk2 : k < w2.heap.size := Nat.lt_of_lt_of_le hkl (Nat.le_trans HB1.out.size HB2.out.size)
  exact (HO4.out.block k hne).trans ((HGW.out.block k hk2 hne1).trans hW2)
 have hbel : Below 0 W w4 := Wk.Only.below HB3.out HO4.out (Nat.zero_le _)
 rw [HM.out] at *
 refine ⟨rfl, _, HX4.out, Wk.R_only HR3.out HG3.out Pi.kRq_ne HO4.out, ?_, ⟨hbel, fun k cs t hk ht => ?_⟩, ⟨hbel.os, hbel.tape, hbel.output, hbel.size, fun k hk hn => hkeep k hk (fun he => hn (.inl he)) (fun he => hn (.inr he.symm))⟩⟩
 ·intro k hk
  rcases HAT.out k hk with h | h
  ·exact .inl h
  ·exact .inr (Nat.le_trans HB1.out.size (Nat.le_trans HB2.out.size h))
 ·refine hkeep k (Array.getElem?_eq_some_iff.1 hk).1 (fun he => ?_) (fun he => ?_)
  ·subst he
   have := HBV.out.out
   rw [hk] at this
   injection this with this
   injection this with _ this
   exact ht (by rw [this]; simp)
  ·obtain ⟨cells, hc⟩ := Kd.R_typed HRV.out k he.symm
   rw [hk] at hc
   injection hc with hc
   injection hc with _ hc
   exact ht (by rw [hc]; simp)
namespace Pi
theorem row_getM {w : World} {base : Nat} {ok : Nat → Prop} {v : Value} {rs : List Rq} (h : kRq.R 67 w base ok v rs) (i : Nat) (hi : i < rs.length) : ∃ ad c A1 c1, v = .slice (some ad) rs.length c ∧ (∀ w', Below w.heap.size w w' → (Instr.loadAt 67 (.pointer (some (ad.add (i * 6))))).run Tryz.prog w' = .ok (.agg (rqc rs[i].1 rs[i].2.1 rs[i].2.2.1 rs[i].2.2.2.1 rs[i].2.2.2.2.1 (.slice A1 rs[i].2.2.2.2.2.length c1)).toArray) w') ∧ kRq.M w base (fun k => ok k ∧ some k ≠ v.ownBlock) rs[i] (rqc rs[i].1 rs[i].2.1 rs[i].2.2.1 rs[i].2.2.2.1 rs[i].2.2.2.2.1 (.slice A1 rs[i].2.2.2.2.2.length c1)) := by
  obtain ⟨A, cc, rfl, _, hrd⟩ := OwnRow.reads h.2
  obtain ⟨ad, c, e, _, hM, hc0⟩ := ReadsRow.get_ hrd ((0, 0, 0, 0, 0, []) : Rq) (i : Int) (by omega) (by omega)
  rw [List.getD_eq_getElem?_getD, Int.toNat_natCast, List.getElem?_eq_getElem hi] at hM
  change kRq.M w base _ rs[i] c at hM
  have hc : ∀ j u, c[j]? = some u → w.cell? (ad.add (i * 6 + j)) = some u := fun j u hu => by
    have := hc0 j u hu
    rwa [Int.toNat_natCast] at this
  obtain ⟨v5, rfl, hR5⟩ := rq_Mc hM
  obtain ⟨A5, c5, rfl⟩ := Kd.R_slice hR5
  subst e
  refine ⟨ad, cc, A5, c5, rfl, ?_, hM⟩
  intro w' hb
  have hu := Tryz.underlying67
  obtain ⟨q, hi, hsz⟩ := Option.map_eq_some_iff.1 size33
  have hl : (loadCells (ad.add (i * 6)) 6).run Tryz.prog w' = .ok (rqc rs[i].1 rs[i].2.1 rs[i].2.2.1 rs[i].2.2.2.1 rs[i].2.2.2.2.1 (.slice A5 rs[i].2.2.2.2.2.length c5)).toArray w' :=
    run_loadCells_list (P := Tryz.prog) w' (ad.add (i * 6)) (rqc rs[i].1 rs[i].2.1 rs[i].2.2.1 rs[i].2.2.2.1 rs[i].2.2.2.2.1 (.slice A5 rs[i].2.2.2.2.2.length c5)) (fun j v hv => by rw [add_add]; have := hc j v hv; exact (hb.cell (World.block_lt_of_cell? w _ this)).trans this)
  have hagg : (isAgg 67).run Tryz.prog w' = .ok true w' := by
    unfold isAgg
    rw [Sem.run_bind, run_underlying hu w']
    rfl
  simp [Instr.loadAt, Instr.sureAddr, loadVar, Sem.run_bind, hagg, sizeOf, typeInfo, hi, hsz, hl]
end Pi
namespace Pi
theorem M_onlyT {w w' : World} {base : Nat} {ok : Nat → Prop} {x : Rq} {cs zs : List Value} {g : Nat} {t : TypeId} (h : kRq.M w base ok x cs) (hb : Wk.Blk w g t zs) (ht : ∀ q, q ∈ kRq.E → q ≠ t) (hO : Wk.Only w w' g) : kRq.M w' base ok x cs :=
  kRq.M_mono (fun _ hk => hk.1) (Kd.M_grown (Kd.M_types h hb.out ht) hO.grown (fun k hk he => hk.2 (by injection he)))
def outl (rs : List Rq) (i k : Nat) : List Rq := (rs.take k).eraseIdx i
theorem outl_ne (rs : List Rq) (i k : Nat) (hk : k < rs.length) (hne : k ≠ i) : outl rs i (k + 1) = outl rs i k ++ [rs[k]] := by
  unfold outl
  rcases Nat.lt_or_ge i k with h | h
  · rw [List.take_succ_eq_append_getElem hk, List.eraseIdx_append_of_lt_length (by rw [List.length_take]; omega)]
  · rw [List.eraseIdx_of_length_le (by rw [List.length_take]; omega), List.eraseIdx_of_length_le (by rw [List.length_take]; omega), List.take_succ_eq_append_getElem hk]
theorem outl_eq (rs : List Rq) (i : Nat) : outl rs i (i + 1) = outl rs i i := by
  unfold outl
  rw [List.eraseIdx_eq_take_drop_succ, List.take_take, Nat.min_eq_left (Nat.le_succ _), List.drop_of_length_le (by rw [List.length_take]; omega), List.append_nil, List.eraseIdx_of_length_le (by rw [List.length_take]; omega)]
theorem outl_all (rs : List Rq) (i : Nat) : outl rs i rs.length = rs.eraseIdx i := by unfold outl; rw [List.take_length]
theorem outl_len (rs : List Rq) (i k : Nat) : (outl rs i k).length ≤ k := by
  unfold outl
  have := List.length_eraseIdx_le (rs.take k) i
  rw [List.length_take] at this
  omega
end Pi
theorem rtake_no {W : World} {base : Nat} {ok : Nat → Prop} {g : Nat} {rs : List Rq} (h : Pi.Rf W base ok g rs) (k : Int) (hk : k < 0 ∨ (rs.length : Int) ≤ k) :
  Calls Tryz.prog 46 #[.pointer (some ⟨g, 0, none⟩), .int .i64 k] W fun e w' => e = .returned (.tuple #[.agg Pi.zrq.toArray, .bool false]) ∧ Below W.heap.size W w' := by
 obtain ⟨AL, cL, hcL, _⟩ := h.cell
 have HGL := az h.lt
 obtain ⟨m, HM⟩ : ∃ n, Aside0 (rs.length = n) := ⟨_, ⟨rfl⟩⟩
 rw [HM.out] at hcL hk
 have HSZ := az Pi.size33
 clear h
 rcases hk with hk | hk
 ·skip
  go_enter Tryz.func46, Tryz.ntmps46
  have hc1 : (W.alloc (.cells #[.int .u16 0, .int .u16 0, .int .u64 0, .int .u64 0, .int .u32 0, .slice none 0 0] 67)).cell? ⟨g, 0, none⟩ = some (.slice AL m cL) := by rw [World.cell?_alloc_lt _ _ _ HGL.out]; exact hcL
  have HX := az (Wk.Blk.new W 67 Pi.zrq)
  go_wp2_with (refine Wk.store_all rfl rfl 67 (.tmp 4) (.tmp 20) rfl W.heap.size Pi.zrq rfl rfl 67 _ HX.out HSZ.out rfl rfl ?_; intro w3 hX hO; have HX3 := az hX; have HO3 := az hO; clear hX hO)
  refine bodyPost_ret (Wk.res_ct rfl _ W.heap.size 67 _ _ rfl HX3.out Tryz.underlying67 rfl HSZ.out) rfl ?_
  exact ⟨rfl, Wk.Only.below ((Below.refl _ _).alloc (Nat.le_refl _) _) HO3.out (Nat.le_refl _)⟩
 ·have hk0 : 0 ≤ k := by omega
  go_enter Tryz.func46, Tryz.ntmps46
  have hc1 : (W.alloc (.cells #[.int .u16 0, .int .u16 0, .int .u64 0, .int .u64 0, .int .u32 0, .slice none 0 0] 67)).cell? ⟨g, 0, none⟩ = some (.slice AL m cL) := by rw [World.cell?_alloc_lt _ _ _ HGL.out]; exact hcL
  have HX := az (Wk.Blk.new W 67 Pi.zrq)
  go_wp2_with (refine Wk.store_all rfl rfl 67 (.tmp 4) (.tmp 20) rfl W.heap.size Pi.zrq rfl rfl 67 _ HX.out HSZ.out rfl rfl ?_; intro w3 hX hO; have HX3 := az hX; have HO3 := az hO; clear hX hO)
  refine bodyPost_ret (Wk.res_ct rfl _ W.heap.size 67 _ _ rfl HX3.out Tryz.underlying67 rfl HSZ.out) rfl ?_
  exact ⟨rfl, Wk.Only.below ((Below.refl _ _).alloc (Nat.le_refl _) _) HO3.out (Nat.le_refl _)⟩
theorem Cn.rtakey_ {W : World} {ok : Nat → Prop} {g : Nat} {rs : List Rq} (h : Pi.Rf W 0 ok g rs) (i : Nat) (hi : i < rs.length) (hf : ∀ k, W.heap.size ≤ k → ok k) :
    Calls Tryz.prog 46 #[.pointer (some ⟨g, 0, none⟩), .int .i64 i] W fun e w' => ∃ cs, e = .returned (.tuple #[.agg cs.toArray, .bool true]) ∧ kRq.M w' 0 ok rs[i] cs ∧ (∃ v', Wk.Blk w' g 91 [v'] ∧ kRq.R 67 w' 0 ok v' (rs.eraseIdx i) ∧ (∀ k, v'.ownBlock = some k → W.heap.size ≤ k)) ∧ W.grownBy w' (some g) := by
  have HP := az h
  have HF := az hf
  obtain ⟨AL, cL, hcL, hlL, hCL, hBL, hRL⟩ := h.cell
  obtain ⟨ad, c0, A1, c1, hv, hrun, hMr⟩ := Pi.row_getM hRL i hi
  obtain rfl : AL = some ad := by injection hv
  have HRL := az hRL
  obtain ⟨m, HM⟩ : ∃ n, Aside0 (rs.length = n) := ⟨_, ⟨rfl⟩⟩
  obtain ⟨r, HR⟩ : ∃ r, Aside0 (rs[i] = r) := ⟨_, ⟨rfl⟩⟩
  rw [HR.out] at hrun hMr ⊢
  obtain ⟨md, HMD⟩ : ∃ m, Aside0 (r.2.2.2.2.2.length = m) := ⟨_, ⟨rfl⟩⟩
  rw [HMD.out] at hrun hMr
  have hm16 : m ≤ 16 := by rw [← HM.out]; exact h.le
  have hiI : (i : Int) < m := by have := HM.out; omega
  have hm16I : (m : Int) ≤ 16 := by omega
  rw [HM.out] at hcL hBL
  have HBL := az hBL
  have HRUN := az hrun
  have HMR := az hMr
  have HGL := az h.lt
  have HSZ := az Pi.size33
  have HCELL := az hcL
  clear h hf hlL hCL hBL hRL hv hrun hMr
  go_enter Tryz.func46, Tryz.ntmps46
  have hc1 : (W.alloc (.cells #[.int .u16 0, .int .u16 0, .int .u64 0, .int .u64 0, .int .u32 0, .slice none 0 0] 67)).cell? ⟨g, 0, none⟩ = some (.slice (some ad) m cL) := by rw [World.cell?_alloc_lt _ _ _ HGL.out]; exact hcL
  have HX := az (Wk.Blk.new W 67 Pi.zrq)
  have HRUN1 := az (HRUN.out (W.alloc (.cells #[.int .u16 0, .int .u16 0, .int .u64 0, .int .u64 0, .int .u32 0, .slice none 0 0] 67)) (below_alloc (Below.refl _ _) _))
  clear hcL
  go_wp2_with (first
    | refine Wk.load rfl 67 (.tmp 26) rfl _ (.pointer (some (ad.add (i * 6)))) rfl HRUN1.out ?_
    | (refine Wk.store_all rfl rfl 67 (.tmp 6) (.tmp 27) rfl (W.heap.size + 1) (Pi.rqc r.1 r.2.1 r.2.2.1 r.2.2.2.1 r.2.2.2.2.1 (.slice A1 md c1)) rfl rfl 67 Pi.zrq ⟨heap_alloc2_new W _ _⟩ HSZ.out rfl rfl ?_; intro w3 hX hO; have HY3 := az hX; have HO3 := az hO; clear hX hO))
  have HB3 : Aside0 (Below W.heap.size W w3) := ⟨Wk.Only.below (((Below.refl _ _).alloc (Nat.le_refl _) _).alloc (by simp) _) HO3.out (Nat.le_succ _)⟩
  have HX3 : Aside0 (Wk.Blk w3 W.heap.size 67 Pi.zrq) := ⟨(HX.out.alloc _).only HO3.out (Nat.ne_of_lt (Nat.lt_succ_self _))⟩
  have HBL3 := az (HBL.out.below_ HB3.out)
  have HRL3 := az (Kd.R_below HRL.out HB3.out)
  have HCELL3 := az ((HB3.out.cell (p := ⟨g, 0, none⟩) HGL.out).trans HCELL.out)
  have HMR3 := az (Kd.M_below HMR.out HB3.out)
  have HW3 : Aside0 (W.heap.size < w3.heap.size) := ⟨HX3.out.lt⟩
  have HG3 := az HBL3.out.lt
  have HS22 := az Pi.size22
  have HNE : Aside0 (W.heap.size ≠ g ∧ W.heap.size + 1 ≠ g) := ⟨by have := HGL.out; omega⟩
  clear hc1 HX HO3 HRUN HRUN1 HRL HCELL HMR HBL
  go_wp2_with fail
  go_loopw [7, 8] (fun v ix wr => ∃ k : Nat, ix = .int .i64 k ∧ k ≤ m ∧ Aside0 (kRq.R 67 wr 0 (fun j => ok j ∧ j ≠ W.heap.size) v (Pi.outl rs i k)) ∧ Aside0 (Below w3.heap.size w3 wr) ∧ Aside0 (∀ j, v.ownBlock = some j → w3.heap.size ≤ j)) (fun _ ix _ => m - (intOf ix).toNat)
  case atStart => exact ⟨0, rfl, Nat.zero_le _, ⟨Kd.R_nil _ _ _ _ _⟩, ⟨Below.refl _ _⟩, ⟨fun j h => by simp [Value.ownBlock] at h⟩⟩
  case round =>
    obtain ⟨k, rfl, hk, HO, HB, HV⟩ := hrel
    have hcell := (HB.out.cell (p := ⟨g, 0, none⟩) HG3.out).trans HCELL3.out
    by_cases hlt : k < m
    · have hltI : (k : Int) < m := by omega
      by_cases hki : k = i
      · subst hki
        go_wp2_with fail
        go_roundw
        case rel => exact ⟨k + 1, by go_num, by omega, ⟨by rw [Pi.outl_eq]; exact HO.out⟩, HB, HV⟩
        case measure => simp [intOf]; omega
      · have hneI : ((k : Int) == (i : Int)) = false := by simp; omega
        have hneJ : ((k : Int) != (i : Int)) = true := by simp; omega
        have hkl : k < rs.length := by rw [HM.out]; exact hlt
        obtain ⟨ad', c0', A2, c2, hv, hrun, hM2⟩ := Pi.row_getM HRL3.out k hkl
        obtain rfl : ad = ad' := by injection hv with h; injection h
        have HTK := az (Pi.outl_ne rs i k hkl hki)
        obtain ⟨r2, HR2⟩ : ∃ r2, Aside0 (rs[k] = r2) := ⟨_, ⟨rfl⟩⟩
        rw [HR2.out] at hrun hM2 HTK
        obtain ⟨n2, HN2⟩ : ∃ m, Aside0 (r2.2.2.2.2.2.length = m) := ⟨_, ⟨rfl⟩⟩
        rw [HN2.out] at hrun hM2
        have HRUN := az (hrun wr HB.out)
        have HM2 : Aside0 (kRq.M wr 0 (fun j => (ok j ∧ j ≠ W.heap.size) ∧ some j ≠ u7.ownBlock) r2 (Pi.rqc r2.1 r2.2.1 r2.2.2.1 r2.2.2.2.1 r2.2.2.2.2.1 (.slice A2 n2 c2))) := ⟨Kd.M_below (kRq.M_mono (fun j hj => ⟨⟨hj.1.1.1, hj.1.2⟩, fun he => by have := HV.out j he.symm; have := hj.2.2.1; omega⟩) (kRq.M_bound (Kd.M_types hM2 HX3.out.out (by decide)))) HB.out⟩
        have HL2 : Aside0 (((Pi.outl rs i k).length + 1) * 56 ≤ 140737488355328) := ⟨by have := Pi.outl_len rs i k; omega⟩
        have HBW : Aside0 (Below 0 W wr ∧ 0 ≤ wr.heap.size) := ⟨(below_then HB3.out HB3.out.size HB.out).mono (Nat.zero_le _), Nat.zero_le _⟩
        have HFR : Aside0 (∀ j, wr.heap.size ≤ j → ok j ∧ j ≠ W.heap.size) := ⟨fun j hj => ⟨HF.out j (Nat.le_trans HB3.out.size (Nat.le_trans HB.out.size hj)), fun he => by have := HW3.out; have := HB.out.size; omega⟩⟩
        clear hv hrun hM2
        unfold Pi.rqc at HRUN HM2
        go_wp2_with (first
          | refine Wk.load rfl 67 (.tmp 46) rfl _ (.pointer (some (ad.add (k * 6)))) rfl HRUN.out ?_
          | (at_builtin; refine Kd.R_append kRq (w0 := W) (W := wr) 0 rfl (.tmp 40) (.tmp 48) 39 67 (.agg Pi.zrq.toArray) 56 rfl Tryz.underlying39 Pi.info33 rfl (by decide) (by omega) u7 (Pi.outl rs i k) r2 [.int .u16 r2.1, .int .u16 r2.2.1, .int .u64 r2.2.2.1, .int .u64 r2.2.2.2.1, .int .u32 r2.2.2.2.2.1, .slice A2 n2 c2] (fun j => ok j ∧ j ≠ W.heap.size) (fun j => (ok j ∧ j ≠ W.heap.size) ∧ some j ≠ u7.ownBlock) rfl rfl HM2.out (fun _ h => h) HFR.out HO.out HBW.out.1 HBW.out.2 HL2.out ?_; intro v9 w9 hr9 hb9 hg9 ha9; have HO9 := az hr9; have HG9 := az hg9; have HA9 := az ha9; clear hr9 hb9 hg9 ha9))
        go_roundw
        case rel => exact ⟨k + 1, by go_num, by omega, ⟨by rw [HTK.out]; exact HO9.out⟩, ⟨HB.out.grown HG9.out HB.out.size HV.out⟩, ⟨fun j hj => by
          rcases HA9.out with h | ⟨b, h, hb⟩
          · exact HV.out j (h ▸ hj)
          · rw [h] at hj
            injection hj with hj
            have := HB.out.size
            omega⟩⟩
        case measure => simp [intOf]; omega
    · obtain rfl : m = k := by omega
      have HOE : Aside0 (Pi.outl rs i m = rs.eraseIdx i) := ⟨by rw [← HM.out]; exact Pi.outl_all rs i⟩
      rw [HOE.out] at HO
      obtain ⟨A9, c9, rfl⟩ := Kd.R_slice HO.out
      obtain ⟨m9, HM9⟩ : ∃ m9, Aside0 ((rs.eraseIdx i).length = m9) := ⟨_, ⟨rfl⟩⟩
      rw [HM9.out] at HO HV ⊢
      have HBr := az (HBL3.out.below_ HB.out)
      have HXr := az (HX3.out.below_ HB.out)
      have HYr := az (HY3.out.below_ HB.out)
      go_wp2_with (first
        | (refine Wk.store rfl rfl 39 (.tmp 53) (.tmp 51) rfl g 0 (.slice A9 m9 c9) [.slice A9 m9 c9] rfl rfl rfl 91 _ HBr.out HS22.out (Nat.le_refl 1) rfl ?_; intro w5 hX hO; have HX5 := az (show Wk.Blk w5 g 91 [.slice A9 m9 c9] from hX); have HO5 := az hO; have HY5 := az (HYr.out.only hO HNE.out.2); have HZ5 := az (HXr.out.only hO HNE.out.1); clear hX hO)
        | refine Wk.load rfl 67 (.tmp 6) rfl _ (.pointer (some ⟨W.heap.size + 1, 0, none⟩)) rfl (Wk.run_load_blk 67 (W.heap.size + 1) 0 (Pi.rqc r.1 r.2.1 r.2.2.1 r.2.2.2.1 r.2.2.2.2.1 (.slice A1 md c1)) _ HY5.out rfl Tryz.underlying67 rfl HSZ.out) ?_
        | (refine Wk.store_all rfl rfl 67 (.tmp 4) (.tmp 54) rfl W.heap.size (Pi.rqc r.1 r.2.1 r.2.2.1 r.2.2.2.1 r.2.2.2.2.1 (.slice A1 md c1)) rfl rfl 67 _ HZ5.out HSZ.out rfl rfl ?_; intro w7 hX hO; have HX7 := az hX; have HO7 := az hO; clear hX hO))
      refine bodyPost_ret (Wk.res_ct rfl _ W.heap.size 67 _ _ rfl HX7.out Tryz.underlying67 rfl HSZ.out) rfl ?_
      have hE : ∀ q, q ∈ kRq.E → q ≠ 91 := by decide
      have hE2 : ∀ q, q ∈ kRq.E → q ≠ 67 := by decide
      have hM := Pi.M_onlyT (Pi.M_onlyT (Kd.M_below HMR3.out HB.out) HBr.out hE HO5.out) HZ5.out hE2 HO7.out
      have hg6 : W.grownBy w5 (some g) := World.grownBy.trans (grown_of_below HB3.out _) (World.grownBy.trans (grown_of_below HB.out _) HO5.out.grown)
      have hR5 := Wk.R_only HO.out HBr.out Pi.kRq_ne HO5.out
      refine ⟨_, rfl, kRq.M_mono (fun j hj => hj.1) hM, ⟨.slice A9 m9 c9, HX5.out.only HO7.out (Ne.symm HNE.out.1), Kd.R_mono (Kd.R_grown hR5 HO7.out.grown (fun j hj he => hj.2 (by injection he))) (fun _ h => h.1), fun j hj => Nat.le_trans HB3.out.size (HV.out j hj)⟩, ⟨HO7.out.os.trans hg6.os, HO7.out.tape.trans hg6.tape, HO7.out.output.trans hg6.output, by rw [HO7.out.size]; exact hg6.size, fun k hk hkn => (HO7.out.block k (by omega)).trans (hg6.block k hk hkn)⟩⟩
end Go.Proofs.YtgljicdpcapgnaaGreatDoor
namespace Go.Proofs.YtgljicdpcapgnaaGreatDoor.Gr
open Go.RowKit Go.Proofs.YtgljicdpcapgnaaGreatDoor Go.Proofs.YtgljicdpcapgnaaGreatDoor.PBase Go.Proofs.YtgljicdpcapgnaaGreatDoorW.PrintWords Go.Proofs.YtgljicdpcapgnaaGreatDoorW.PrintLast Go.Proofs.YtgljicdpcapgnaaGreatDoorW.PrintMore Go.Proofs.YtgljicdpcapgnaaGreatDoor.Wi
theorem ql1 (x0 x1 : List Int) (i : Nat) (hi : i < x1.length) (hl : x1.length ≤ 1000000) : ∀ (n : Nat), n ≤ 8 → ∀ (K : Nat) (acc : List Int), acc.length + n ≤ 100000000 →
    coamingref06_Pack.l1 (K + n + 1) x0 x1 acc i ((n : Int) - 1) = coamingref06_Pack.l0 K x0 x1 (acc ++ be (rd x1 i) n) (i + 1) := by
  intro n
  induction n with
  | zero =>
    intro _ K acc _
    rw [coamingref06_Pack.l1, if_neg (by omega), be, List.append_nil, w64 _ (by omega) (by omega)]
  | succ n ih =>
    intro hn K acc ha
    rw [coamingref06_Pack.l1, if_pos (by omega), if_pos (by omega), if_pos (by omega)]
    have e : wrap64 (8 * (((n + 1 : Nat) : Int) - 1)) = 8 * (n : Int) := by rw [w64 _ (by omega) (by omega)]; omega
    have e2 : wrap64 (((n + 1 : Nat) : Int) - 1 - 1) = (n : Int) - 1 := by rw [w64 _ (by omega) (by omega)]; omega
    rw [e, e2, Bt.wraps_u64 _ (by omega) (by omega), if_pos (by omega), if_pos (by omega), shr_be _ _ (by omega)]
    rw [show K + (n + 1) = K + n + 1 by omega, ih (by omega) K _ (by simp; omega), be, List.append_assoc]
    rfl
theorem ql0 (x0 x1 : List Int) (m : Nat) (hm : m = min x0.length x1.length) (h0 : x0.length ≤ 1000000) (h1 : x1.length ≤ 1000000) : ∀ (d i : Nat), i + d = m → ∀ (F : Nat) (acc : List Int), 11 * d + 2 ≤ F → acc.length + 8 * d ≤ 10000000 →
    coamingref06_Pack.l0 F x0 x1 acc i = some (acc ++ packs (x0.drop i) (x1.drop i)) := by
  intro d
  induction d with
  | zero =>
    intro i e F acc hF _
    obtain ⟨F, rfl⟩ : ∃ G, F = G + 2 := ⟨F - 2, by omega⟩
    have : packs (x0.drop i) (x1.drop i) = [] := by
      by_cases c : x0.length ≤ i
      · rw [List.drop_eq_nil_of_le c]; rfl
      · rw [show x1.drop i = [] from List.drop_eq_nil_of_le (by omega)]
        cases x0.drop i <;> rfl
    rw [this, List.append_nil, coamingref06_Pack.l0]
    by_cases c : (i : Int) < (x0.length : Int)
    · rw [if_pos c, coamingref06_Pack.j1, if_neg (by simp; omega)]
    · rw [if_neg c, coamingref06_Pack.j1, if_neg (by simp)]
  | succ d ih =>
    intro i e F acc hF ha
    obtain ⟨F, rfl⟩ : ∃ G, F = G + 2 := ⟨F - 2, by omega⟩
    have hw := wd_range (rd x0 i)
    rw [coamingref06_Pack.l0, if_pos (by omega), coamingref06_Pack.j1, if_pos (by simp; omega), if_pos (by omega), if_pos (by omega), Width_f, Option.bind_some, w64 _ (by omega) (by omega)]
    have hF' : F = (F - wd (rd x0 i) - 1) + wd (rd x0 i) + 1 := by omega
    have hbl : ∀ v n, (be v n).length = n := by intro v n; induction n with | zero => rfl | succ n ihn => simp [be, ihn]
    rw [hF', ql1 x0 x1 i (by omega) h1 _ hw.2 _ _ (by omega)]
    have := ih (i + 1) (by omega) (F - wd (rd x0 i) - 1) (acc ++ be (rd x1 i) (wd (rd x0 i))) (by omega) (by rw [List.length_append, hbl]; omega)
    rw [show ((i : Int) + 1) = ((i + 1 : Nat) : Int) by omega, this, rd_drop x0 i (by omega), rd_drop x1 i (by omega), packs, List.append_assoc]
theorem rpack_is (x0 x1 : List Int) (h0 : x0.length ≤ 100000) (h1 : x1.length ≤ 100000) (K : Nat) (hK : 11 * x0.length + 2 ≤ K) : coamingref06_Pack.f K x0 x1 = some (packs x0 x1) := by
  unfold coamingref06_Pack.f
  have := ql0 x0 x1 _ rfl (by omega) (by omega) (min x0.length x1.length) 0 (by omega) K [] (by omega) (by simp; omega)
  simpa using this
end Go.Proofs.YtgljicdpcapgnaaGreatDoor.Gr
namespace Go.Proofs.YtgljicdpcapgnaaGreatDoor
open Go.RowKit Go.Proofs.YtgljicdpcapgnaaGreatDoor.PBase Go.Proofs.YtgljicdpcapgnaaGreatDoorW.PrintWords Go.Proofs.YtgljicdpcapgnaaGreatDoorW.PrintLast Go.Proofs.YtgljicdpcapgnaaGreatDoorW.PrintMore
namespace Cn
theorem rpack_ {A B : Option Addr} {n c m d : Nat} {ws vs : List Int} {W : World} (h0 : Kd.C (Kd.int .i64) W A ws.length ws) (hn : ws.length = n) (hc : n ≤ c) (h1 : Kd.C (Kd.int .u64) W B vs.length vs) (hm : vs.length = m) (hd : m ≤ d) (hl : n ≤ 99) (hl2 : m ≤ 99) :
    Calls Tryz.prog 44 #[.slice A n c, .slice B m d] W (Made W (Wi.packs ws vs)) := by
  subst hn; subst hm
  exact (coamingref06_Pack.calls 2000 A c ws B d vs _ W h0 hc h1 hd (Gr.rpack_is ws vs (by omega) (by omega) 2000 (by omega))).mono (fun _ _ h => made h)
theorem rtake_ {A B : Option Addr} {n c m d : Nat} {l ws : List Int} {W : World} (h0 : Kd.C (Kd.int .u8) W A l.length l) (hn : l.length = n) (hc : n ≤ c) (h1 : Kd.C (Kd.int .i64) W B ws.length ws) (hm : ws.length = m) (hd : m ≤ d) (hl : n ≤ 1000000) (hl2 : m ≤ 9) (hb : Wi.Bytes l) :
    Calls Tryz.prog 77 #[.slice A n c, .slice B m d] W fun e w' => ∃ A0 c0 A1 c1, e = .returned (.tuple #[.slice A0 (Wi.takes l ws []).1.length c0, .slice A1 (Wi.takes l ws []).2.1.length c1, .bool (Wi.takes l ws []).2.2]) ∧ Kd.R (Kd.int .u64) 45 w' W.heap.size (fun _ => True) (.slice A0 (Wi.takes l ws []).1.length c0) (Wi.takes l ws []).1 ∧ Kd.R (Kd.int .u8) 5 w' W.heap.size (fun _ => True) (.slice A1 (Wi.takes l ws []).2.1.length c1) (Wi.takes l ws []).2.1 ∧ Below W.heap.size W w' := by
  subst hn; subst hm
  refine (coamingref06_Take.calls 1000 A c l B d ws _ _ _ W h0 hc h1 hd (Wi.rtake_is l ws hb (by omega) (by omega) 1000 (by omega))).mono ?_
  rintro e w' ⟨v0, v1, rfl, h0, h1, hb⟩
  obtain ⟨A0, c0, rfl⟩ := Kd.R_slice h0
  obtain ⟨A1, c1, rfl⟩ := Kd.R_slice h1
  exact ⟨A0, c0, A1, c1, rfl, h0, h1, hb⟩
end Cn
theorem Cn.rhello_ (W : World) : Calls Tryz.prog 28 #[] W (Cn.Made W Cn.hello) := by
 have HB2 : Aside0 (Below W.heap.size W ((W.alloc (.cells #[.int .i64 8, .int .i64 8, .int .i64 2] 3)).alloc (.cells #[.int .u64 5639144782019643715, .int .u64 5280542401877725268, .int .u64 3] 45))) := ⟨below_alloc (below_alloc (Below.refl _ _) _) _⟩
 go_enter Tryz.func28, Tryz.ntmps28
 go_wp2_with fail
 refine (Cn.rpack_ (ws := [8, 8, 2]) (vs := [5639144782019643715, 5280542401877725268, 3]) (Kd.C_below (Lit.reads_new W _ 3 _ .i64 [8, 8, 2] rfl (by decide)) (below_alloc (Below.refl _ _) _)) rfl (by decide) (Lit.two_reads W _ 45 .u64 [5639144782019643715, 5280542401877725268, 3] rfl (by decide)) rfl (by decide) (by decide) (by decide)).mono ?_
 rintro e w3 ⟨A3, c3, rfl, hR3, hb3⟩
 have HR3 := az hR3
 have HB3 := az (below_then HB2.out HB2.out.size hb3)
 clear hb3 hR3
 go_wp2_with fail
 go_ret
 exact ⟨A3, c3, rfl, Kd.R_lower HR3.out HB2.out.size, HB3.out⟩
theorem Cn.rblocks_ (W : World) (b : Int) (h0 : 0 ≤ b) (h1 : b < 18446744073709551616) : Calls Tryz.prog 98 #[.int .i64 b] W (Cn.Made W (Cn.blocks b)) := by
 have HB2 : Aside0 (Below W.heap.size W ((W.alloc (.cells #[.int .i64 2, .int .i64 4, .int .i64 4, .int .i64 4] 3)).alloc (.cells #[.int .u64 3, .int .u64 1, .int .u64 b, .int .u64 65536] 45))) := ⟨below_alloc (below_alloc (Below.refl _ _) _) _⟩
 have hb := Cn.u64_ b h0 h1
 go_enter Tryz.func98, Tryz.ntmps98
 go_wp2_with fail
 refine (Cn.rpack_ (ws := [2, 4, 4, 4]) (vs := [3, 1, b, 65536]) (Kd.C_below (Lit.reads_new W _ 3 _ .i64 [2, 4, 4, 4] rfl (by decide)) (below_alloc (Below.refl _ _) _)) rfl (by decide) (Lit.two_reads W _ 45 .u64 [3, 1, b, 65536] rfl (by simp)) rfl (Nat.le_of_ble_eq_true rfl) (by decide) (Nat.le_of_ble_eq_true rfl)).mono ?_
 rintro e w3 ⟨A3, c3, rfl, hR3, hb3⟩
 have HR3 := az hR3
 have HB3 := az (below_then HB2.out HB2.out.size hb3)
 clear hb3 hR3
 go_wp2_with fail
 go_ret
 exact ⟨A3, c3, rfl, Kd.R_lower HR3.out HB2.out.size, HB3.out⟩
theorem Cn.rrep_ {A : Option Addr} {n c : Nat} {d : List Int} {W : World} {o k : Int} (ho : 0 ≤ o ∧ o < 4294967296) (hk : 0 ≤ k ∧ k < 4294967296) (h : Kd.C (Kd.int .u8) W A d.length d) (hn : d.length = n) (hc : n ≤ c) (hl : n ≤ 1000000) :
  Calls Tryz.prog 95 #[.int .u32 o, .int .u32 k, .slice A n c] W (Cn.Made W (Cn.rep o k d)) := by
 have HB2 : Aside0 (Below W.heap.size W ((W.alloc (.cells #[.int .i64 8, .int .i64 4, .int .i64 4, .int .i64 4] 3)).alloc (.cells #[.int .u64 1100100111001001, .int .u64 o, .int .u64 k, .int .u64 n] 45))) := ⟨below_alloc (below_alloc (Below.refl _ _) _) _⟩
 have e1 := Cn.u64_ o ho.1 (by omega)
 have e2 := Cn.u64_ k hk.1 (by omega)
 have e3 := Cn.u64_ (n : Int) (by omega) (by omega)
 have HD := az h
 have HN := az hn
 have HL := az hl
 clear ho hk h hn hl
 go_enter Tryz.func95, Tryz.ntmps95
 go_wp2_with fail
 clear e1 e2 e3
 refine (Cn.rpack_ (ws := [8, 4, 4, 4]) (vs := [1100100111001001, o, k, (n : Int)]) (Kd.C_below (Lit.reads_new W _ 3 _ .i64 [8, 4, 4, 4] rfl (by decide)) (below_alloc (Below.refl _ _) _)) rfl (by decide) (Lit.two_reads W _ 45 .u64 [1100100111001001, o, k, (n : Int)] rfl (by simp)) rfl (Nat.le_of_ble_eq_true rfl) (by decide) (Nat.le_of_ble_eq_true rfl)).mono ?_
 rintro e w3 ⟨A3, c3, rfl, hR3, hb3⟩
 have HB3 := az (below_then HB2.out HB2.out.size hb3)
 have HR3 := az (Kd.R_lower hR3 HB2.out.size)
 have HC3 : Aside0 (Kd.C (Kd.int .u8) w3 A n d) := ⟨by have := Kd.C_below HD.out HB3.out; rwa [HN.out] at this⟩
 have HPL : Aside0 ((Wi.packs [8, 4, 4, 4] [1100100111001001, o, k, (n : Int)]).length ≤ 8000) := ⟨Cn.packs_len4 _ _ (by decide)⟩
 have HRP : Aside0 (Wi.packs [8, 4, 4, 4] [1100100111001001, o, k, (n : Int)] ++ d = Cn.rep o k d) := ⟨by unfold Cn.rep; rw [HN.out]⟩
 obtain ⟨x, HX⟩ : ∃ x, Aside0 (Wi.packs [8, 4, 4, 4] [1100100111001001, o, k, (n : Int)] = x) := ⟨_, ⟨rfl⟩⟩
 rw [HX.out] at HR3 HPL HRP ⊢
 clear hb3 hR3
 go_wp2_with (at_builtin; refine Kd.R_append_rows (Kd.int .u8) (w0 := W) W.heap.size rfl (.tmp 18) (.tmp 19) 35 5 (.int .u8 0) 1 rfl Tryz.underlying35 Cl.infoByte rfl (by decide) (by decide) (.slice A3 x.length c3) x d A n c (fun _ => True) (fun _ => False) rfl rfl HR3.out HC3.out (fun _ _ h => h) (fun _ h => h.elim) (fun _ _ => trivial) HB3.out HB3.out.size (by have := HPL.out; have := HL.out; omega) ?_; intro v4 w4 hr4 hb4 _ _; obtain ⟨A4, c4, rfl⟩ := Kd.R_slice hr4; have HR4 := az hr4; have HB4 := az hb4; rw [HRP.out] at HR4 ⊢; clear hr4 hb4)
 go_ret
 exact ⟨A4, c4, rfl, HR4.out, HB4.out⟩
theorem Cn.rflags_ {A : Option Addr} {n c : Nat} {l : List Int} {W : World} {s : Bool} {m e : Int} (h : Kd.C (Kd.int .u8) W A l.length l) (hn : l.length = n) (hc : n ≤ c) (hl : n ≤ 1000000) (hb : Sh.Bytes l) (hf : Gr.fl l = (s, m, e)) :
  Calls Tryz.prog 63 #[.slice A n c] W fun e' w' => e' = .returned (.tuple #[.bool s, .int .i64 m, .int .i64 e]) ∧ Below W.heap.size W w' := by
 have HB2 : Aside0 (Below W.heap.size W (W.alloc (.cells #[.int .i64 4] 3))) := ⟨below_alloc (Below.refl _ _) _⟩
 have HD := az h
 have HN := az hn
 have HC := az hc
 have HL := az hl
 have HBY := az hb
 have HF := az hf
 clear h hn hl hb hf hc
 go_enter Tryz.func63, Tryz.ntmps63
 go_wp2_with fail
 refine (Cn.rtake_ (ws := [4]) (Kd.C_below HD.out HB2.out) HN.out HC.out (Lit.reads_new W _ 3 _ .i64 [4] rfl (by decide)) rfl (by decide) HL.out (by decide) HBY.out).mono ?_
 rintro e w3 ⟨A0, c0, A1, c1, rfl, hR0, hR1, hb3⟩
 have HB3 := az (below_then HB2.out HB2.out.size hb3)
 have ht := Gr.takes4 l
 by_cases h4 : l.length < 4
 ·rw [if_pos h4] at ht
  rw [ht]
  have HE : Aside0 (s = false ∧ m = 0 ∧ e = 70) := ⟨by have := HF.out; unfold Gr.fl at this; rw [if_pos h4] at this; simp only [Prod.mk.injEq] at this; exact ⟨this.1.symm, this.2.1.symm, this.2.2.symm⟩⟩
  clear hb3 hR0 hR1 h4 ht
  go_wp2_with fail
  go_ret3
  obtain ⟨rfl, rfl, rfl⟩ := HE.out
  exact ⟨rfl, HB3.out⟩
 ·rw [if_neg h4] at ht
  rw [ht] at hR0 ⊢
  obtain ⟨x, HX⟩ : ∃ x, Aside0 (Wi.num (l.take 4) = x) := ⟨_, ⟨rfl⟩⟩
  obtain ⟨nr, HNR⟩ : ∃ x, Aside0 ((l.drop 4).length = x) := ⟨_, ⟨rfl⟩⟩
  have hf := HF.out
  unfold Gr.fl at hf
  rw [if_neg h4, HX.out] at hf
  simp only [HX.out, HNR.out] at hR0 ⊢
  obtain ⟨ab, q0⟩ := Cn.first_ hR0
  obtain ⟨rfl, q0⟩ := q0
  clear hb3 hR0 hR1 h4 ht HF
  have HFF := az hf
  clear hf
  by_cases h1 : x = 1
  ·subst h1
   have hf := HFF.out
   rw [if_pos (by exact Or.inl rfl)] at hf
   simp only [Prod.mk.injEq] at hf
   obtain ⟨rfl, rfl, rfl⟩ := hf
   go_wp2_with fail
   go_ret3
   exact ⟨rfl, HB3.out⟩
  by_cases h3 : x = 3
  ·subst h3
   have hf := HFF.out
   rw [if_pos (by exact Or.inr rfl)] at hf
   simp only [Prod.mk.injEq] at hf
   obtain ⟨rfl, rfl, rfl⟩ := hf
   go_wp2_with fail
   go_ret3
   exact ⟨rfl, HB3.out⟩
  have e1 : (x == 1) = false := by simpa using h1
  have e3 : (x == 3) = false := by simpa using h3
  have n1 : (x != 1) = true := by simpa using h1
  have n3 : (x != 3) = true := by simpa using h3
  have hf := HFF.out
  rw [if_neg (fun h => h.elim h1 h3)] at hf
  simp only [Prod.mk.injEq] at hf
  obtain ⟨rfl, rfl, rfl⟩ := hf
  go_wp2_with fail
  go_ret3
  exact ⟨rfl, HB3.out⟩
theorem Cn.rcanc_ (W : World) (x : Cn.Ex) : Calls Tryz.prog 101 #[.agg #[.int .u32 x.1, .int .u64 x.2.1, .bool x.2.2]] W fun e' w' => e' = .returned (.int .u64 (Cn.can x.2.2)) ∧ Below W.heap.size W w' := by
 obtain ⟨x0, x1, ro⟩ := x
 have HB := az (below_alloc (Below.refl W.heap.size W) (.cells #[.int .u32 x0, .int .u64 x1, .bool ro] 47))
 cases ro with
 | false =>
  go_enter Tryz.func101, Tryz.ntmps101
  go_wp2_with fail
  go_ret
  exact ⟨rfl, HB.out⟩
 | true =>
  go_enter Tryz.func101, Tryz.ntmps101
  go_wp2_with fail
  go_ret
  exact ⟨rfl, HB.out⟩
theorem Cn.rinfo_ (W : World) (x : Cn.Ex) : Calls Tryz.prog 97 #[.agg #[.int .u32 x.1, .int .u64 x.2.1, .bool x.2.2]] W (Cn.Made W (Cn.info x)) := by
 obtain ⟨x0, x1, ro⟩ := x
 have HSZ : Aside0 ((Tryz.prog.info? 47).map (·.size) = some 3) := ⟨by kernel_rfl⟩
 obtain ⟨wb, HWB⟩ : ∃ wb, Aside0 (W.alloc (.cells #[.int .u32 x0, .int .u64 x1, .bool ro] 47) = wb) := ⟨_, ⟨rfl⟩⟩
 have HBB : Aside0 (Below W.heap.size W wb) := ⟨HWB.out ▸ below_alloc (Below.refl _ _) _⟩
 have HX : Aside0 (Wk.Blk wb W.heap.size 47 [.int .u32 x0, .int .u64 x1, .bool ro]) := ⟨HWB.out ▸ Wk.Blk.new W _ [.int .u32 x0, .int .u64 x1, .bool ro]⟩
 go_enter Tryz.func97, Tryz.ntmps97
 go_wp2_with fail
 rw [HWB.out]
 clear HWB
 refine wp_region_noPanic ?_
 refine Rg.s1 8 (fun w' => Below wb.heap.size wb w') [] (Below.refl _ _).drew #[false, false, false, false, false, false, false, false] (fun hHeld => ?_)
 refine Rg.p1 1 (.some 4) ?_
 refine Rg.t1 2 (.some 5) hHeld ?_ (hy := by intro w' hS'; (have c1 := (HX.out.below_ hS').at_ 1 rfl; go_simp); first | done | with_reducible rfl)
 refine Rg.t1 3 (.some 6) hHeld ?_ (hy := by intro w' hS'; (have hl := Wk.run_load_blk (P := Tryz.prog) 47 W.heap.size 0 [.int .u32 x0, .int .u64 x1, .bool ro] _ (HX.out.below_ hS') rfl Tryz.underlying47 rfl HSZ.out; refine (Wk.exec_load 47 (.tmp 1) rfl _ _ rfl hl).trans ?_); first | done | with_reducible rfl)
 have HH := az hHeld
 generalize hw6 : World.drew _ = w6 at hHeld HH ⊢
 clear hw6
 refine join_ (σ := Nat × Nat) (fuel' := 2) #[true, true, true, true, true, true, false, false] (fun s => [(3, .slice (some ⟨s.1, 0, none⟩) 3 3), (7, .int .u64 (Cn.can ro)), (8, .slice (some ⟨s.2, 0, none⟩) 3 3)]) (fun s w' => Below wb.heap.size wb w' ∧ Kd.C (Kd.int .i64) w' (some ⟨s.1, 0, none⟩) 3 [2, 8, 2] ∧ Kd.C (Kd.int .u64) w' (some ⟨s.2, 0, none⟩) 3 [0, x1, Cn.can ro]) ?_ (fun hJ => ?_)
 rotate_left
 ·refine two_ (i := 0) (j := 4) (Ni := some 3) (Nj := some 7) #[true, true, true, true, false, false, false, false] #[false, true, true, true, true, false, false, false] rfl rfl rfl rfl (by kernel_rfl) (by decide) (by decide) (fun K hK => ?_) (fun K hK => ?_)
  ·refine value_ (w1 := w6.alloc (.cells #[.int .i64 2, .int .i64 8, .int .i64 2] 3)) (v := .slice (some ⟨w6.heap.size, 0, none⟩) 3 3) (by rfl) rfl (by first | (go_simp; done) | (go_simp; rfl)) ?_
   have HC := az (Lit.reads_new w6 #[.int .i64 2, .int .i64 8, .int .i64 2] 3 (0, 0) .i64 [2, 8, 2] rfl (by decide))
   refine hK.out _ _ (below_then hHeld hHeld.size (below_alloc (Below.refl _ _) _)) (fun hHeld => ?_)
   clear hK K
   refine Rg.n1 ?_
   refine Rg.o1 4 (.some 7) (fun K hK => ?_)
   refine call_ 101 #[.agg #[.int .u32 x0, .int .u64 x1, .bool ro]] (by rfl) rfl (by go_simp) ?_
   refine (Cn.rcanc_ _ (x0, x1, ro)).mono ?_
   rintro e w8 ⟨rfl, hb8⟩
   refine ⟨_, rfl, ?_⟩
   refine hK.out _ _ (below_then hHeld hHeld.size hb8) (fun hHeld => ?_)
   have HC' := az (Kd.C_below HC.out hb8)
   clear hK K
   refine Rg.n1 ?_
   refine Rg.o1 5 (.some 8) (fun K hK => ?_)
   refine value_ (w1 := w8.alloc (.cells #[.int .u64 0, .int .u64 x1, .int .u64 (Cn.can ro)] 45)) (v := .slice (some ⟨w8.heap.size, 0, none⟩) 3 3) (by rfl) rfl (by first | (go_simp; done) | (go_simp; rfl)) ?_
   refine hK.out _ _ (below_then hHeld hHeld.size (below_alloc (Below.refl _ _) _)) (fun hHeld => ?_)
   exact hJ (w6.heap.size, w8.heap.size) _ ⟨hHeld, Kd.C_below HC'.out (below_alloc (Below.refl _ _) _), (Lit.reads_new w8 #[.int .u64 0, .int .u64 x1, .int .u64 (Cn.can ro)] 45 (0, 0) .u64 [0, x1, Cn.can ro] rfl (by simp))⟩
  ·refine call_ 101 #[.agg #[.int .u32 x0, .int .u64 x1, .bool ro]] (by rfl) rfl (by go_simp) ?_
   refine (Cn.rcanc_ _ (x0, x1, ro)).mono ?_
   rintro e w8 ⟨rfl, hb8⟩
   refine ⟨_, rfl, ?_⟩
   refine hK.out _ _ (below_then hHeld hHeld.size hb8) (fun hHeld => ?_)
   clear hb8
   clear hK K
   refine Rg.n1 ?_
   refine two_ (i := 0) (j := 5) (Ni := some 3) (Nj := some 8) #[true, true, true, true, true, false, false, false] #[false, true, true, true, true, true, false, false] rfl rfl rfl rfl (by kernel_rfl) (by decide) (by decide) (fun K hK => ?_) (fun K hK => ?_)
   ·refine value_ (w1 := w8.alloc (.cells #[.int .i64 2, .int .i64 8, .int .i64 2] 3)) (v := .slice (some ⟨w8.heap.size, 0, none⟩) 3 3) (by rfl) rfl (by first | (go_simp; done) | (go_simp; rfl)) ?_
    have HC := az (Lit.reads_new w8 #[.int .i64 2, .int .i64 8, .int .i64 2] 3 (0, 0) .i64 [2, 8, 2] rfl (by decide))
    refine hK.out _ _ (below_then hHeld hHeld.size (below_alloc (Below.refl _ _) _)) (fun hHeld => ?_)
    generalize hw9 : World.alloc w8 _ = w9 at *
    clear hw9
    clear hK K
    refine Rg.n1 ?_
    refine Rg.o1 5 (.some 8) (fun K hK => ?_)
    refine value_ (w1 := w9.alloc (.cells #[.int .u64 0, .int .u64 x1, .int .u64 (Cn.can ro)] 45)) (v := .slice (some ⟨w9.heap.size, 0, none⟩) 3 3) (by rfl) rfl (by first | (go_simp; done) | (go_simp; rfl)) ?_
    refine hK.out _ _ (below_then hHeld hHeld.size (below_alloc (Below.refl _ _) _)) (fun hHeld => ?_)
    exact hJ (w8.heap.size, w9.heap.size) _ ⟨hHeld, Kd.C_below HC.out (below_alloc (Below.refl _ _) _), (Lit.reads_new w9 #[.int .u64 0, .int .u64 x1, .int .u64 (Cn.can ro)] 45 (0, 0) .u64 [0, x1, Cn.can ro] rfl (by simp))⟩
   ·refine value_ (w1 := w8.alloc (.cells #[.int .u64 0, .int .u64 x1, .int .u64 (Cn.can ro)] 45)) (v := .slice (some ⟨w8.heap.size, 0, none⟩) 3 3) (by rfl) rfl (by first | (go_simp; done) | (go_simp; rfl)) ?_
    have HC := az (Lit.reads_new w8 #[.int .u64 0, .int .u64 x1, .int .u64 (Cn.can ro)] 45 (0, 0) .u64 [0, x1, Cn.can ro] rfl (by simp))
    refine hK.out _ _ (below_then hHeld hHeld.size (below_alloc (Below.refl _ _) _)) (fun hHeld => ?_)
    generalize hw9 : World.alloc w8 _ = w9 at *
    clear hw9
    clear hK K
    refine Rg.n1 ?_
    refine Rg.o1 0 (.some 3) (fun K hK => ?_)
    refine value_ (w1 := w9.alloc (.cells #[.int .i64 2, .int .i64 8, .int .i64 2] 3)) (v := .slice (some ⟨w9.heap.size, 0, none⟩) 3 3) (by rfl) rfl (by first | (go_simp; done) | (go_simp; rfl)) ?_
    refine hK.out _ _ (below_then hHeld hHeld.size (below_alloc (Below.refl _ _) _)) (fun hHeld => ?_)
    exact hJ (w9.heap.size, w8.heap.size) _ ⟨hHeld, (Lit.reads_new w9 #[.int .i64 2, .int .i64 8, .int .i64 2] 3 (0, 0) .i64 [2, 8, 2] rfl (by decide)), Kd.C_below HC.out (below_alloc (Below.refl _ _) _)⟩
 rintro ⟨g, g'⟩ w7 ⟨hHeld, hC7, hC8⟩
 have HC7 := az hC7
 have HC8 := az hC8
 clear hC7 hC8 HH
 refine norm_ (a' := ?_) ?_ ?_
 rotate_left
 ·show Act.put (Act.put (Act.put _ (some 3) _) (some 7) _) (some 8) _ = _
  simp only [Act.put, List.setIfInBounds_toArray, List.set_cons_zero, List.set_cons_succ]
  rfl
 refine Rg.o1 6 (.some 9) (fun K hK => ?_)
 refine call_ 44 #[.slice (some ⟨g, 0, none⟩) 3 3, .slice (some ⟨g', 0, none⟩) 3 3] (by rfl) rfl (by go_simp) ?_
 refine (Cn.rpack_ (ws := [2, 8, 2]) (vs := [0, x1, Cn.can ro]) HC7.out rfl (by decide) HC8.out rfl (Nat.le_of_ble_eq_true rfl) (by decide) (Nat.le_of_ble_eq_true rfl)).mono ?_
 rintro e w9 ⟨A9, c9, rfl, hR9, hb9⟩
 refine ⟨_, rfl, ?_⟩
 have HB9 := az (below_then HBB.out HBB.out.size (below_then hHeld hHeld.size hb9))
 have HR9 := az (Kd.R_lower hR9 (Nat.le_trans HBB.out.size hHeld.size))
 refine hK.out _ _ (below_then hHeld hHeld.size hb9) (fun hHeld => ?_)
 clear hK K
 refine Rg.n1 ?_
 refine Rg.p1 7 (.some 2) ?_
 refine Rg.d1 ?_
 refine NoPanic.normal ?_
 go_wp2_with fail
 go_ret
 exact ⟨A9, c9, rfl, HR9.out, HB9.out⟩
theorem Cn.answer_ {A : Option Addr} {n c : Nat} {d : List Int} {W : World} {a k : Int} (ho : 0 ≤ a ∧ a < 4294967296) (h : Kd.C (Kd.int .u8) W A d.length d) (hn : d.length = n) (hc : n ≤ c) (hl : n ≤ 1000000) :
  Calls Tryz.prog 48 #[.int .u32 a, .int .u64 k, .slice A n c] W (Cn.Made W (Cn.answer a k d)) := by
 have HB2 : Aside0 (Below W.heap.size W ((W.alloc (.cells #[.int .i64 4, .int .i64 4, .int .i64 8] 3)).alloc (.cells #[.int .u64 1732535960, .int .u64 a, .int .u64 k] 45))) := ⟨below_alloc (below_alloc (Below.refl _ _) _) _⟩
 have e1 := Cn.u64_ a ho.1 (by omega)
 have HD := az h
 have HN := az hn
 have HL := az hl
 clear ho h hn hl
 go_enter Tryz.func48, Tryz.ntmps48
 go_wp2_with fail
 clear e1
 refine (Cn.pack_ (ws := [4, 4, 8]) (vs := [1732535960, a, k]) (Kd.C_below (Lit.reads_new W _ 3 _ .i64 [4, 4, 8] rfl (by decide)) (below_alloc (Below.refl _ _) _)) rfl (by decide) (Lit.two_reads W _ 45 .u64 [1732535960, a, k] rfl (by simp)) rfl (Nat.le_of_ble_eq_true rfl) (by decide) (Nat.le_of_ble_eq_true rfl)).mono ?_
 rintro e w3 ⟨A3, c3, rfl, hR3, hb3⟩
 have HB3 := az (below_then HB2.out HB2.out.size hb3)
 have HR3 := az (Kd.R_lower hR3 HB2.out.size)
 have HC3 : Aside0 (Kd.C (Kd.int .u8) w3 A n d) := ⟨by have := Kd.C_below HD.out HB3.out; rwa [HN.out] at this⟩
 have HPL : Aside0 ((Wi.packs [4, 4, 8] [1732535960, a, k]).length ≤ 8000) := ⟨Cn.packs_len4 _ _ (by decide)⟩
 have HRP : Aside0 (Wi.packs [4, 4, 8] [1732535960, a, k] ++ d = Cn.answer a k d) := ⟨rfl⟩
 obtain ⟨x, HX⟩ : ∃ x, Aside0 (Wi.packs [4, 4, 8] [1732535960, a, k] = x) := ⟨_, ⟨rfl⟩⟩
 rw [HX.out] at HR3 HPL HRP ⊢
 clear hb3 hR3
 go_wp2_with (at_builtin; refine Kd.R_append_rows (Kd.int .u8) (w0 := W) W.heap.size rfl (.tmp 12) (.tmp 13) 35 5 (.int .u8 0) 1 rfl Tryz.underlying35 Cl.infoByte rfl (by decide) (by decide) (.slice A3 x.length c3) x d A n c (fun _ => True) (fun _ => False) rfl rfl HR3.out HC3.out (fun _ _ h => h) (fun _ h => h.elim) (fun _ _ => trivial) HB3.out HB3.out.size (by have := HPL.out; have := HL.out; omega) ?_; intro v4 w4 hr4 hb4 _ _; obtain ⟨A4, c4, rfl⟩ := Kd.R_slice hr4; have HR4 := az hr4; have HB4 := az hb4; rw [HRP.out] at HR4 ⊢; clear hr4 hb4)
 go_ret
 exact ⟨A4, c4, rfl, HR4.out, HB4.out⟩
theorem Cn.ranswer_ {A : Option Addr} {n c : Nat} {d : List Int} {W : World} {a k : Int} (ho : 0 ≤ a ∧ a < 4294967296) (h : Kd.C (Kd.int .u8) W A d.length d) (hn : d.length = n) (hc : n ≤ c) (hl : n ≤ 1000000) :
  Calls Tryz.prog 49 #[.int .u32 a, .int .u64 k, .slice A n c] W (Cn.Made W (Cn.answer a k d)) := by
 have HB2 : Aside0 (Below W.heap.size W ((W.alloc (.cells #[.int .i64 4, .int .i64 4, .int .i64 8] 3)).alloc (.cells #[.int .u64 1732535960, .int .u64 a, .int .u64 k] 45))) := ⟨below_alloc (below_alloc (Below.refl _ _) _) _⟩
 have e1 := Cn.u64_ a ho.1 (by omega)
 have HD := az h
 have HN := az hn
 have HL := az hl
 clear ho h hn hl
 go_enter Tryz.func49, Tryz.ntmps49
 go_wp2_with fail
 clear e1
 refine (Cn.rpack_ (ws := [4, 4, 8]) (vs := [1732535960, a, k]) (Kd.C_below (Lit.reads_new W _ 3 _ .i64 [4, 4, 8] rfl (by decide)) (below_alloc (Below.refl _ _) _)) rfl (by decide) (Lit.two_reads W _ 45 .u64 [1732535960, a, k] rfl (by simp)) rfl (Nat.le_of_ble_eq_true rfl) (by decide) (Nat.le_of_ble_eq_true rfl)).mono ?_
 rintro e w3 ⟨A3, c3, rfl, hR3, hb3⟩
 have HB3 := az (below_then HB2.out HB2.out.size hb3)
 have HR3 := az (Kd.R_lower hR3 HB2.out.size)
 have HC3 : Aside0 (Kd.C (Kd.int .u8) w3 A n d) := ⟨by have := Kd.C_below HD.out HB3.out; rwa [HN.out] at this⟩
 have HPL : Aside0 ((Wi.packs [4, 4, 8] [1732535960, a, k]).length ≤ 8000) := ⟨Cn.packs_len4 _ _ (by decide)⟩
 have HRP : Aside0 (Wi.packs [4, 4, 8] [1732535960, a, k] ++ d = Cn.answer a k d) := ⟨rfl⟩
 obtain ⟨x, HX⟩ : ∃ x, Aside0 (Wi.packs [4, 4, 8] [1732535960, a, k] = x) := ⟨_, ⟨rfl⟩⟩
 rw [HX.out] at HR3 HPL HRP ⊢
 clear hb3 hR3
 go_wp2_with (at_builtin; refine Kd.R_append_rows (Kd.int .u8) (w0 := W) W.heap.size rfl (.tmp 14) (.tmp 15) 35 5 (.int .u8 0) 1 rfl Tryz.underlying35 Cl.infoByte rfl (by decide) (by decide) (.slice A3 x.length c3) x d A n c (fun _ => True) (fun _ => False) rfl rfl HR3.out HC3.out (fun _ _ h => h) (fun _ h => h.elim) (fun _ _ => trivial) HB3.out HB3.out.size (by have := HPL.out; have := HL.out; omega) ?_; intro v4 w4 hr4 hb4 _ _; obtain ⟨A4, c4, rfl⟩ := Kd.R_slice hr4; have HR4 := az hr4; have HB4 := az hb4; rw [HRP.out] at HR4 ⊢; clear hr4 hb4)
 go_ret
 exact ⟨A4, c4, rfl, HR4.out, HB4.out⟩
namespace Cn
theorem ty_of_grown {W W' : World} {g : Nat} {t : TypeId} {zs : List Value} {ts : List TypeId} (hg : W.grownBy W' (some g)) (hb : Wk.Blk W g t zs) (ht : t ∈ ts) : Pi.Ty W W' 0 ts :=
  ⟨⟨hg.os, hg.tape, hg.output, hg.size, fun k hk => absurd hk (Nat.not_lt_zero _)⟩, fun k cs t' hk hn => hg.block k (Array.getElem?_eq_some_iff.1 hk).1 (fun he => by
    injection he with he
    subst he
    have := hb.out
    rw [hk] at this
    injection this with this
    injection this with _ this
    exact hn (this ▸ ht))⟩
end Cn
theorem rclose_.calls {W : World} {ok ex : Nat → Prop} {p tb : Nat} {c : Cn.St} (h : Cn.Rn W ok ex p tb c) : Calls Tryz.prog 35 #[.pointer (some ⟨p, 0, none⟩)] W fun e w' => e = .returned (.tuple #[]) ∧ Cn.Rn w' ok ex p tb (Cn.close c) ∧ Cn.Fr W w' ok := by
 obtain ⟨pp, vk, vs, vp, hv⟩ := h
 have HV := az hv
 have HS1 := az Cn.size1
 have HS2 := az Pi.size31
 clear hv
 go_enter Tryz.func35, Tryz.ntmps35
 go_wp2_with (first
  | (refine Wk.store rfl rfl 5 (.tmp 4) (.const (.int .u8 4)) rfl p 5 (.int .u8 4) [.int .u8 4] rfl rfl rfl 65 _ HV.out.blk HS1.out (Nat.le_of_ble_eq_true rfl) rfl ?_; intro w1 hX hO; have HO1 := az hO; have HV1 : Aside0 (Cn.Rv w1 ok ex p tb pp vk vs vp { c with st := 4 }) := ⟨HV.out.turn hO hX rfl rfl rfl⟩; clear hX hO)
  | (refine Wk.store rfl rfl 35 (.tmp 7) (.const (.slice none 0 0)) rfl p 2 (.slice none 0 0) [.slice none 0 0] rfl rfl rfl 65 _ HV1.out.blk HS2.out (Nat.le_of_ble_eq_true rfl) rfl ?_; intro w2 hX hO; have HO2 := az hO; have HV2 : Aside0 (Cn.Rv w2 ok ex p tb pp (.slice none 0 0) vs vp { c with st := 4, kept := [] }) := ⟨HV1.out.keeps (W1 := w1) (Kd.R_nil _ _ _ _ _) (World.grownBy.refl _ _) (fun b hb => by cases hb) hO hX rfl rfl rfl⟩; have k0 := HV2.out.blk.at_ 4 rfl; clear hX hO))
 refine (rclear_.calls HV2.out.rf (fun k => ok k ∧ some k ≠ (Value.slice none 0 0).ownBlock ∧ some k ≠ vs.ownBlock)).mono ?_
 rintro e w3 ⟨rfl, hp3, ho3⟩
 obtain ⟨v3, z1, _, z3, z4⟩ := hp3.out
 have HV3 : Aside0 (Cn.Rv w3 ok ex p tb pp (.slice none 0 0) vs v3 (Cn.close c)) := ⟨HV2.out.piped (Cn.ty_of_grown ho3.grown HV2.out.pb (by simp)) z1 z3 (Kd.R_mono z4 (fun k hk => ⟨.inl hk.1, hk.2⟩)) (fun k hk => (z4.1 k hk).1) ⟨rfl, rfl, rfl, rfl⟩ rfl rfl rfl⟩
 have HF : Aside0 (Cn.Fr W w3 ok) := ⟨((Cn.Fr.of_only HO1.out HV.out.okp).trans (Cn.Fr.of_only HO2.out HV.out.okp)).trans (Cn.Fr.of_only ho3 HV.out.okq)⟩
 clear hp3 ho3 z1 z3 z4
 go_wp2_with fail
 go_end0
 exact ⟨rfl, ⟨pp, _, vs, _, HV3.out⟩, HF.out⟩
theorem rout_.calls {W : World} {ok ex : Nat → Prop} {p tb : Nat} {c : Cn.St} (h : Cn.Rn W ok ex p tb c) : Calls Tryz.prog 22 #[.pointer (some ⟨p, 0, none⟩)] W fun e w' => ∃ A n, e = .returned (.slice A c.send.length n) ∧ Kd.R (Kd.int .u8) 5 w' 0 ok (.slice A c.send.length n) c.send ∧ Cn.Rn w' ok ex p tb (Cn.out c) ∧ Cn.Fr W w' ok := by
 obtain ⟨pp, vk, vs, vp, hv⟩ := h
 obtain ⟨A, n, rfl⟩ := Kd.R_slice hv.send
 have HV := az hv
 obtain ⟨m, HM⟩ : ∃ m, Aside0 (c.send.length = m) := ⟨_, ⟨rfl⟩⟩
 have k4 := hv.blk.at_ 3 rfl
 rw [HM.out] at k4 ⊢
 have HS2 := az Pi.size31
 clear hv
 go_enter Tryz.func22, Tryz.ntmps22
 go_wp2_with (refine Wk.store rfl rfl 35 (.tmp 10) (.const (.slice none 0 0)) rfl p 3 (.slice none 0 0) [.slice none 0 0] rfl rfl rfl 65 _ HV.out.blk HS2.out (Nat.le_of_ble_eq_true rfl) rfl ?_; intro w2 hX hO; have HO2 := az hO; have HV2 : Aside0 (Cn.Rv w2 ok ex p tb pp vk (.slice none 0 0) vp (Cn.out c)) := ⟨HV.out.sent (W1 := W) (Kd.R_nil _ _ _ _ _) (World.grownBy.refl _ _) (fun b hb => by cases hb) hO hX rfl rfl rfl⟩; clear hX hO k4)
 go_ret
 refine ⟨A, n, rfl, ?_, ⟨pp, vk, _, vp, HV2.out⟩, Cn.Fr.of_only HO2.out HV.out.okp⟩
 have := Wk.R_only HV.out.send HV.out.blk Cn.ne_rconn HO2.out
 rw [HM.out] at this
 exact Kd.R_mono this (fun k hk => hk.1)
theorem rnewconn_.calls (W : World) (tb : Nat) (b : Int) : Calls Tryz.prog 9 #[.pointer (some ⟨tb, 0, none⟩), .int .i64 b] W fun e w' => ∃ p, e = .returned (.pointer (some ⟨p, 0, none⟩)) ∧ Cn.Rn w' (fun k => W.heap.size ≤ k) (fun _ => False) p tb (Cn.new b) ∧ Below W.heap.size W w' := by
 go_enter Tryz.func9, Tryz.ntmps9
 go_wp2_with fail
 refine (Cn.rhello_ W).mono ?_
 rintro e w1 ⟨A2, c2, rfl, hR2, hb2⟩
 obtain ⟨m, HM⟩ : ∃ m, Aside0 (Cn.hello.length = m) := ⟨_, ⟨rfl⟩⟩
 rw [HM.out] at hR2 ⊢
 have HR1 := az hR2
 have HB1 := az hb2
 clear hR2 hb2
 go_wp2_with fail
 refine (rnew_.calls (fun k => W.heap.size ≤ k) w1).mono ?_
 rintro e w2 ⟨rfl, hp2, hb2⟩
 have HP2 := az hp2
 have HB2 := az (below_then HB1.out HB1.out.size hb2)
 have HR2 := az (Kd.R_below HR1.out hb2)
 clear hp2 hb2
 have HA : Aside0 (Below w2.heap.size w2 (w2.alloc (.cells (Cn.rc w1.heap.size tb b (.slice A2 m c2) (.slice A2 m c2) 1 Cn.ex0 false).toArray 65))) := ⟨below_alloc (Below.refl _ _) _⟩
 have HX : Aside0 (Wk.Blk (w2.alloc (.cells (Cn.rc w1.heap.size tb b (.slice none 0 0) (.slice A2 m c2) 1 Cn.ex0 false).toArray 65)) w2.heap.size 65 (Cn.rc w1.heap.size tb b (.slice none 0 0) (.slice A2 m c2) 1 Cn.ex0 false)) := ⟨Wk.Blk.new w2 _ _⟩
 have HA : Aside0 (Below w2.heap.size w2 (w2.alloc (.cells (Cn.rc w1.heap.size tb b (.slice none 0 0) (.slice A2 m c2) 1 Cn.ex0 false).toArray 65))) := ⟨below_alloc (Below.refl _ _) _⟩
 go_wp2_with fail
 go_ret
 obtain ⟨vp, z1, z2, z3, z4⟩ := HP2.out.out
 refine ⟨w2.heap.size, rfl, ⟨w1.heap.size, _, _, vp, HX.out, HB2.out.size, HB1.out.size, fun k hk => z4.1 k hk, Kd.R_nil _ _ _ _ _, ?_, z1.below_ HA.out, z3, ?_⟩, below_then HB2.out HB2.out.size HA.out⟩
 ·have := Kd.R_bound (Kd.R_below HR2.out HA.out)
  exact Kd.R_lower (Kd.R_mono this (fun k hk => ⟨hk.2.1, fun he => by cases he⟩)) (Nat.zero_le _)
 ·have hne : ∀ k, w1.heap.size ≤ k → some k ≠ (Value.slice A2 m c2).ownBlock := fun k hk he => by
   have := ((Kd.R_bound HR1.out).1 k he.symm).2.2.1
   omega
  exact Kd.R_mono (Kd.R_lower (Kd.R_bound (Kd.R_below z4 HA.out)) (Nat.zero_le _)) (fun k hk => ⟨.inl hk.1, (fun he => by cases he), hne k hk.2.1⟩)
theorem rcut_.calls {W : World} {ok ex : Nat → Prop} {p tb : Nat} {c : Cn.St} (h : Cn.Rn W ok ex p tb c) (hf : ∀ k, W.heap.size ≤ k → ok k) (n : Nat) (hn : n ≤ c.kept.length) (hl : c.kept.length ≤ 1000000) :
  Calls Tryz.prog 64 #[.pointer (some ⟨p, 0, none⟩), .int .i64 n] W fun e w' => e = .returned (.tuple #[]) ∧ Cn.Rn w' ok ex p tb { c with kept := c.kept.drop n } ∧ Cn.Fr W w' ok := by
 obtain ⟨pp, vk, vs, vp, hv⟩ := h
 obtain ⟨A, cp, rfl⟩ := Kd.R_slice hv.kept
 have HV := az hv
 have HF := az hf
 have HRD := az (Kd.R_reads' hv.kept)
 have k2 := hv.blk.at_ 2 rfl
 have HS2 := az Pi.size31
 obtain ⟨A2, hcf, hC2⟩ := Wk.cut_from_ (P := Tryz.prog) 35 5 .i64 Tryz.underlying35 Cn.byte1 .u8 A cp c.kept (n : Int) n rfl hn HRD.out.2.1
 have HC2 := az (hC2 W HRD.out.2.2)
 obtain ⟨m, HM⟩ : ∃ m, Aside0 (c.kept.length = m) := ⟨_, ⟨rfl⟩⟩
 obtain ⟨d, HD⟩ : ∃ d, Aside0 (c.kept.drop n = d) := ⟨_, ⟨rfl⟩⟩
 have HDL : Aside0 (d.length = m - n ∧ m ≤ 1000000) := ⟨by rw [← HD.out, List.length_drop, HM.out], by rw [← HM.out]; exact hl⟩
 rw [HM.out] at k2 hcf hn
 rw [HD.out] at HC2 ⊢
 rw [HDL.out.1] at HC2
 have HLD : Aside0 ((([] : List Int).length + (m - n)) * 1 ≤ 140737488355328) := ⟨by have := HDL.out.2; simp; omega⟩
 have HRN : Aside0 (Kd.R (Kd.int .u8) 5 W W.heap.size (fun _ => True) (.slice none 0 0) ([] : List Int)) := ⟨Kd.R_nil _ _ _ _ _⟩
 clear hv hf hl hC2
 go_enter Tryz.func64, Tryz.ntmps64
 go_wp2_with (first
  | (at_builtin; refine Kd.R_append_rows (Kd.int .u8) (w0 := W) W.heap.size rfl (.tmp 5) (.tmp 11) 35 5 (.int .u8 0) 1 rfl Tryz.underlying35 Cl.infoByte rfl (by decide) (by decide) (.slice none 0 0) ([] : List Int) d A2 (m - n) (cp - n) (fun _ => True) (fun _ => False) rfl rfl HRN.out HC2.out (fun _ _ h => h) (fun _ h => h.elim) (fun _ _ => trivial) (Below.refl _ _) (Nat.le_refl _) HLD.out ?_; intro v4 w4 hr4 hb4 _ _; rw [List.nil_append] at hr4; obtain ⟨A4, c4, rfl⟩ := Kd.R_slice hr4; rw [HDL.out.1] at hr4 ⊢; have HR4 := az hr4; have HB4 := az hb4; have HV4 := az (HV.out.below hb4); clear hr4 hb4 k2)
  | (refine Wk.store rfl rfl 35 (.tmp 16) (.tmp 14) rfl p 2 (.slice A4 (m - n) c4) [.slice A4 (m - n) c4] rfl rfl rfl 65 _ HV4.out.blk HS2.out (Nat.le_of_ble_eq_true rfl) rfl ?_; intro w5 hX hO; have HO5 := az hO; have HX5 := az hX; clear hX hO))
 go_end0
 have hbd := Kd.R_bound HR4.out
 have hown : ∀ b, (Value.slice A4 (m - n) c4).ownBlock = some b → W.heap.size ≤ b := fun b hb => (hbd.1 b hb).2.1
 exact ⟨rfl, ⟨pp, _, vs, vp, HV.out.keeps (W1 := w4) (c' := { c with kept := d }) (Kd.R_mono (Kd.R_lower hbd (Nat.zero_le _)) (fun k hk => HV.out.freshS HF.out k hk.2.1)) (grown_of_below HB4.out _) (fun b hb => .inr (hown b hb)) HO5.out HX5.out rfl rfl rfl⟩, (Cn.Fr.of_below HB4.out ok).trans (Cn.Fr.of_only HO5.out HV4.out.okp)⟩
theorem served_.calls {W : World} {ok ex : Nat → Prop} {p tb : Nat} {c : Cn.St} (h : Cn.Cn W ok ex p tb c) (hb : 0 ≤ c.blk ∧ c.blk ≤ 65535) (t : Ps.Tk) (ht : Ps.TkWf t) :
  Calls Tryz.prog 87 #[.pointer (some ⟨p, 0, none⟩), .agg (Ps.tkc t).toArray] W fun e w' => e = .returned (.agg (Cn.exc (Cn.served c.blk t)).toArray) ∧ Below W.heap.size W w' := by
 obtain ⟨pp, vk, vs, hv⟩ := h
 obtain ⟨ti, se, ro, sz⟩ := t
 have HV := az hv
 have HT := az ht
 obtain ⟨b, HBK⟩ : ∃ b, Aside0 (c.blk = b) := ⟨_, ⟨rfl⟩⟩
 rw [HBK.out] at hb ⊢
 have HBB := az hb
 have HSE := az Cn.sizeEx
 clear hv ht hb
 have HB2 : Aside0 (Below W.heap.size W ((W.alloc (.cells (Ps.tkc (ti, se, ro, sz)).toArray 122)).alloc (.cells #[.int .u32 0, .int .u64 0, .bool false] 47))) := ⟨below_alloc (below_alloc (Below.refl _ _) _) _⟩
 have HX2 : Aside0 (Wk.Blk ((W.alloc (.cells (Ps.tkc (ti, se, ro, sz)).toArray 122)).alloc (.cells #[.int .u32 0, .int .u64 0, .bool false] 47)) W.heap.size 122 (Ps.tkc (ti, se, ro, sz))) := ⟨(Wk.Blk.new W _ (Ps.tkc (ti, se, ro, sz))).alloc _⟩
 have HY2 : Aside0 (Wk.Blk ((W.alloc (.cells (Ps.tkc (ti, se, ro, sz)).toArray 122)).alloc (.cells #[.int .u32 0, .int .u64 0, .bool false] 47)) (W.heap.size + 1) 47 (Cn.exc Cn.ex0)) := ⟨⟨heap_alloc2_new W _ _⟩⟩
 have k2 := (HV.out.below HB2.out).blk.at_ 2 rfl
 rw [HBK.out] at k2
 go_enter Tryz.func87, Tryz.ntmps87
 go_wp2_with fail
 clear k2
 rw [Cn.u64_ b HBB.out.1 (by have := HBB.out; omega)]
 generalize ((W.alloc (.cells (Ps.tkc (ti, se, ro, sz)).toArray 122)).alloc (.cells #[.int .u32 0, .int .u64 0, .bool false] 47)) = w2 at *
 have c0 := HX2.out.at_ 0 rfl
 have c2 := HX2.out.at_ 2 rfl
 have c3 := HX2.out.at_ 3 rfl
 refine wp_region_noPanic ?_
 by_cases h0 : b = 0
 ·subst h0
  refine Rg.s1 10 (fun w' => Below w2.heap.size w2 w') [] (Below.refl _ _).drew #[false, false, false, false, false, false, false, false, false, false] (fun hHeld => ?_)
  refine Rg.p1 0 (.some 12) ?_
  refine Rg.p1 1 (.some 13) ?_
  refine Rg.p1 2 (.some 14) ?_
  refine Rg.u1 3 (.some 15) ?_
  refine Rg.u1 4 (.some 16) ?_
  refine Rg.u1 5 (.some 17) ?_
  refine Rg.u1 6 (.some 18) ?_
  refine Rg.u1 7 (.some 19) ?_
  refine Rg.u1 8 (.some 20) ?_
  refine Rg.p1 9 (.some 21) ?_
  refine Rg.d1 ?_
  refine NoPanic.normal ?_
  have HYD := az HY2.out.drew
  have HBD := az (below_drew HB2.out)
  have d0 := HX2.out.drew.at_ 0 rfl
  have d2 := HX2.out.drew.at_ 2 rfl
  have d3 := HX2.out.drew.at_ 3 rfl
  clear c0 c2 c3
  go_wp2_with (refine Wk.store_all rfl rfl 47 (.tmp 4) (.tmp 31) rfl (W.heap.size + 1) [.int .u32 ti, _, .bool ro] rfl rfl 47 _ HYD.out HSE.out rfl rfl ?_; intro w5 hX hO; have HX5 := az hX; have HO5 := az hO; clear hX hO)
  refine bodyPost_ret (Wk.res_c rfl _ (W.heap.size + 1) 47 _ _ rfl HX5.out Tryz.underlying47 rfl HSE.out) rfl ?_
  refine ⟨?_, Wk.Only.below HBD.out HO5.out (Nat.le_succ _)⟩
  unfold Cn.served
  rw [if_pos (Or.inl rfl)]
  first | rfl | simp [Cn.exc]
 ·have hbz : (b == 0) = false := by simpa using h0
  refine Rg.s1 10 (fun w' => Below w2.heap.size w2 w') [] (Below.refl _ _).drew #[false, false, false, false, false, false, false, false, false, false] (fun hHeld => ?_)
  refine Rg.p1 0 (.some 12) ?_
  refine Rg.p1 1 (.some 13) ?_ (hy := by intro w'; (refine Eq.trans (b := .ok (Next.value (.bool false)) w') (by first | (go_simp; done) | (go_simp; simp_all; done) | (go_simp; omega)) ?_); first | done | with_reducible rfl)
  refine Rg.p1 2 (.some 14) ?_
  refine Rg.p1 3 (.some 15) ?_
  refine Rg.t1 4 (.some 16) hHeld ?_ (hy := by intro w' hS'; (have c1 := (HX2.out.below_ hS').at_ 3 rfl; go_simp); first | done | with_reducible rfl)
  refine Rg.p1 5 (.some 17) ?_
  refine Rg.p1 6 (.some 18) ?_
  refine Rg.p1 7 (.some 19) ?_
  refine Rg.p1 8 (.some 20) ?_
  refine Rg.p1 9 (.some 21) ?_
  refine Rg.d1 ?_
  refine NoPanic.normal ?_
  have HYD := az HY2.out.drew
  have HBD := az (below_drew HB2.out)
  have d0 := HX2.out.drew.at_ 0 rfl
  have d2 := HX2.out.drew.at_ 2 rfl
  have d3 := HX2.out.drew.at_ 3 rfl
  clear c0 c2 c3
  obtain ⟨q0, HQ⟩ : ∃ q : Int, Aside0 (18446744073709551615 / b = q) := ⟨_, ⟨rfl⟩⟩
  have hbp : 0 < b := by have := HBB.out; omega
  have hq0 : 0 ≤ q0 ∧ q0 ≤ 18446744073709551615 := by
   rw [← HQ.out]
   exact ⟨Int.ediv_nonneg (by decide) (by omega), Int.ediv_le_self _ (by decide)⟩
  have hmul : q0 * b ≤ 18446744073709551615 := by rw [← HQ.out]; exact Int.ediv_mul_le _ (by omega)
  have hw : IntKind.u64.wrap (Int.tdiv 18446744073709551615 b) = q0 := by
   rw [Int.tdiv_eq_ediv_of_nonneg (by decide), HQ.out]
   exact Cn.u64_ q0 hq0.1 (by omega)
  rw [hw]
  clear hw
  have HQB := az (And.intro hq0 hmul)
  clear hq0 hmul
  by_cases hsq : sz ≤ q0
  ·have hdd : decide (sz ≤ q0) = true := decide_eq_true hsq
   rw [hdd]
   go_wp2_with (refine Wk.store_all rfl rfl 47 (.tmp 4) (.tmp 31) rfl (W.heap.size + 1) [.int .u32 ti, _, .bool ro] rfl rfl 47 _ HYD.out HSE.out rfl rfl ?_; intro w5 hX hO; have HX5 := az hX; have HO5 := az hO; clear hX hO)
   refine bodyPost_ret (Wk.res_c rfl _ (W.heap.size + 1) 47 _ _ rfl HX5.out Tryz.underlying47 rfl HSE.out) rfl ?_
   refine ⟨?_, Wk.Only.below HBD.out HO5.out (Nat.le_succ _)⟩
   have h1 : sz * b ≤ 18446744073709551615 := Int.le_trans (Int.mul_le_mul_of_nonneg_right hsq (Int.le_of_lt hbp)) HQB.out.2
   have h2 : 0 ≤ sz * b := Int.mul_nonneg HT.out.2.2.1 (Int.le_of_lt hbp)
   unfold Cn.served
   rw [if_pos (Or.inr (by rw [HQ.out]; exact hsq))]
   show Ending.returned (.agg #[.int .u32 ti, .int .u64 (IntKind.u64.wrap (sz * b)), .bool ro]) = _
   rw [Cn.u64_ _ h2 (by omega)]
   rfl
  ·have hdd : decide (sz ≤ q0) = false := decide_eq_false hsq
   rw [hdd]
   go_wp2_with (refine Wk.store_all rfl rfl 47 (.tmp 4) (.tmp 31) rfl (W.heap.size + 1) [.int .u32 ti, _, .bool ro] rfl rfl 47 _ HYD.out HSE.out rfl rfl ?_; intro w5 hX hO; have HX5 := az hX; have HO5 := az hO; clear hX hO)
   refine bodyPost_ret (Wk.res_c rfl _ (W.heap.size + 1) 47 _ _ rfl HX5.out Tryz.underlying47 rfl HSE.out) rfl ?_
   refine ⟨?_, Wk.Only.below HBD.out HO5.out (Nat.le_succ _)⟩
   unfold Cn.served
   rw [if_neg (fun hh => hh.elim h0 (fun h => by rw [HQ.out] at h; change sz ≤ q0 at h; omega))]
   rfl
theorem rreply_.calls {W : World} {ok ex : Nat → Prop} {p tb : Nat} {c : Cn.St} (h : Cn.Rn W ok ex p tb c) (hf : ∀ k, W.heap.size ≤ k → ok k) {Ad A : Option Addr} {nd cd n cp : Nat} {o k : Int} {d : List Int} (ho : 0 ≤ o ∧ o < 4294967296) (hk : 0 ≤ k ∧ k < 4294967296) (hd : Kd.C (Kd.int .u8) W A d.length d) (hn : d.length = n) (hc : n ≤ cp) (hl : n ≤ 1000000) (hs : c.send.length ≤ 10000000000000) :
  Calls Tryz.prog 78 #[.pointer (some ⟨p, 0, none⟩), .agg #[.int .u32 o, .slice Ad nd cd], .int .u32 k, .slice A n cp] W fun e w' => e = .returned (.tuple #[]) ∧ Cn.Rn w' ok ex p tb (Cn.say c o k d) ∧ Cn.Fr W w' ok := by
 obtain ⟨pp, vk, vs, vp, hv⟩ := h
 have HV := az hv
 have HF := az hf
 have HO := az ho
 have HK := az hk
 have HD := az hd
 have HN := az hn
 have HCP := az (And.intro hc hl)
 have HS := az hs
 have HS2 := az Pi.size31
 clear hv hf ho hk hd hn hc hl hs
 have HB1 : Aside0 (Below W.heap.size W (W.alloc (.cells #[.int .u32 o, .slice Ad nd cd] 103))) := ⟨below_alloc (Below.refl _ _) _⟩
 have HX1 : Aside0 (Wk.Blk (W.alloc (.cells #[.int .u32 o, .slice Ad nd cd] 103)) W.heap.size 103 [.int .u32 o, .slice Ad nd cd]) := ⟨Wk.Blk.new W _ [.int .u32 o, .slice Ad nd cd]⟩
 go_enter Tryz.func78, Tryz.ntmps78
 go_wp2_with fail
 generalize W.alloc (.cells #[.int .u32 o, .slice Ad nd cd] 103) = w1 at *
 have HV1 := az (HV.out.below HB1.out)
 refine wp_region_noPanic ?_
 refine Rg.s1 14 (fun w' => Below w1.heap.size w1 w') [10, 13] (Below.refl _ _).drew #[false, false, false, false, false, false, false, false, false, false, false, false, false, false] (fun hHeld => ?_)
 refine Rg.p1 0 (.some 8) ?_
 refine Rg.p1 1 (.some 9) ?_
 refine Rg.p1 2 (.some 10) ?_
 refine Rg.p1 3 (.some 11) ?_
 refine Rg.t1 4 (.some 12) hHeld ?_ (hy := by intro w' hS'; (have c1 := (HV1.out.below hS').blk.at_ 3 rfl; go_simp); first | done | with_reducible rfl)
 refine Rg.p1 5 (.some 13) ?_
 refine Rg.t1 6 (.some 14) hHeld ?_ (hy := by intro w' hS'; (have c1 := (HX1.out.below_ hS').at_ 0 rfl; go_simp); first | done | with_reducible rfl)
 refine Rg.p1 7 (.some 15) ?_
 refine Rg.p1 8 (.some 16) ?_
 refine Rg.o1 9 (.some 17) (fun K hK => ?_)
 refine call_ 95 #[.int .u32 o, .int .u32 k, .slice A n cp] (by rfl) rfl (by go_simp) ?_
 refine (Cn.rrep_ HO.out HK.out (Kd.C_below HD.out (below_then HB1.out HB1.out.size hHeld)) HN.out HCP.out.1 HCP.out.2).mono ?_
 rintro e w2 ⟨A2, c2, rfl, hR2, hb2⟩
 have HR2 := az hR2
 have HB2 := az (below_then hHeld hHeld.size hb2)
 clear hR2 hb2
 refine ⟨_, rfl, ?_⟩
 refine hK.out _ _ HB2.out (fun hHeld => ?_)
 clear hK K
 refine Rg.n1 ?_
 have HV2 := az (HV1.out.below HB2.out)
 have HBW := az (below_then HB1.out HB1.out.size HB2.out)
 have HLR : Aside0 ((Cn.rep o k d).length ≤ 2000000) := ⟨by
  have := Cn.packs_len4 [8, 4, 4, 4] [1100100111001001, o, k, (d.length : Int)] (by simp)
  have := HN.out
  have := HCP.out
  unfold Cn.rep
  rw [List.length_append]
  omega⟩
 have HFS : Aside0 (∀ j, w2.heap.size ≤ j → ok j ∧ some j ≠ vk.ownBlock) := ⟨HV2.out.freshK (fun j hj => HF.out j (Nat.le_trans HBW.out.size hj))⟩
 refine Rg.l1 10 (.some 18) (fun K hK => ?_)
 refine Kd.R_append_rows_step (Kd.int .u8) (w0 := w2) (W := w2) 0 (by rfl) (.tmp 12) (.tmp 17) 35 5 (.int .u8 0) 1 rfl Tryz.underlying35 Cn.infoByte rfl (by decide) (by omega) vs c.send (Cn.rep o k d) A2 _ c2 (fun k => ok k ∧ some k ≠ vk.ownBlock) (fun _ => False) rfl rfl HV2.out.send (Kd.R_reads' HR2.out).2.2 (fun _ _ h => h) (fun _ h => h.elim) HFS.out (Below.refl _ _) (Nat.zero_le _) (by have := HS.out; have := HLR.out; omega) ?_
 intro v3 w3 hr3 _ hg3 hat3
 obtain ⟨A3, c3, hv3⟩ := Kd.R_slice hr3
 obtain ⟨L3, HL3⟩ : ∃ L, Aside0 ((c.send ++ Cn.rep o k d).length = L) := ⟨_, ⟨rfl⟩⟩
 rw [HL3.out] at hv3
 subst hv3
 have HR3 := az hr3
 have HG3 := az hg3
 have HA3 := az (Cn.hat_of hat3)
 have HX3 := az (HV2.out.blk.grown hg3 (Kd.R_ne HV2.out.send HV2.out.blk.out (by decide)))
 clear hr3 hg3 hat3
 refine hK.out _ _ ?_
 clear hK K
 refine Rg.n1 ?_
 refine Rg.p1 11 (.some 19) ?_
 refine Rg.p1 12 (.some 20) ?_
 refine Rg.l1 13 none (fun K hK => ?_)
 refine Wk.store_step (by rfl) rfl 35 (.tmp 20) (.tmp 18) rfl p 3 (.slice A3 L3 c3) [.slice A3 L3 c3] rfl rfl rfl 65 _ HX3.out HS2.out (Nat.le_of_ble_eq_true rfl) rfl ?_
 intro w4 hX hO
 have HO4 := az hO
 have HV4 : Aside0 (Cn.Rv w4 ok ex p tb pp vk (.slice A3 L3 c3) vp (Cn.say c o k d)) := ⟨HV2.out.sent HR3.out HG3.out HA3.out hO hX rfl rfl rfl⟩
 clear hX hO
 refine hK.out _ _ ?_
 clear hK K
 refine Rg.d1 ?_
 refine NoPanic.normal ?_
 go_wp2_with fail
 go_end0
 exact ⟨rfl, ⟨pp, _, _, vp, HV4.out⟩, ((Cn.Fr.of_below HBW.out ok).trans (Cn.Fr.of_grown HG3.out HV2.out.okS)).trans (Cn.Fr.of_only HO4.out HV2.out.okp)⟩
theorem rserved_.calls {W : World} {ok ex : Nat → Prop} {p tb : Nat} {c : Cn.St} (h : Cn.Rn W ok ex p tb c) (hb : 0 ≤ c.blk ∧ c.blk ≤ 65535) (t : Ps.Tk) (ht : Ps.TkWf t) :
  Calls Tryz.prog 81 #[.pointer (some ⟨p, 0, none⟩), .agg (Ps.tkc t).toArray] W fun e w' => e = .returned (.agg (Cn.exc (Cn.served c.blk t)).toArray) ∧ Below W.heap.size W w' := by
 obtain ⟨pp, vk, vs, vp, hv⟩ := h
 obtain ⟨ti, se, ro, sz⟩ := t
 have HV := az hv
 have HT := az ht
 obtain ⟨b, HBK⟩ : ∃ b, Aside0 (c.blk = b) := ⟨_, ⟨rfl⟩⟩
 rw [HBK.out] at hb ⊢
 have HBB := az hb
 have HSE := az Cn.sizeEx
 clear hv ht hb
 have HB2 : Aside0 (Below W.heap.size W ((W.alloc (.cells (Ps.tkc (ti, se, ro, sz)).toArray 122)).alloc (.cells #[.int .u32 0, .int .u64 0, .bool false] 47))) := ⟨below_alloc (below_alloc (Below.refl _ _) _) _⟩
 have HX2 : Aside0 (Wk.Blk ((W.alloc (.cells (Ps.tkc (ti, se, ro, sz)).toArray 122)).alloc (.cells #[.int .u32 0, .int .u64 0, .bool false] 47)) W.heap.size 122 (Ps.tkc (ti, se, ro, sz))) := ⟨(Wk.Blk.new W _ (Ps.tkc (ti, se, ro, sz))).alloc _⟩
 have HY2 : Aside0 (Wk.Blk ((W.alloc (.cells (Ps.tkc (ti, se, ro, sz)).toArray 122)).alloc (.cells #[.int .u32 0, .int .u64 0, .bool false] 47)) (W.heap.size + 1) 47 (Cn.exc Cn.ex0)) := ⟨⟨heap_alloc2_new W _ _⟩⟩
 have k2 := (HV.out.below HB2.out).blk.at_ 1 rfl
 rw [HBK.out] at k2
 go_enter Tryz.func81, Tryz.ntmps81
 go_wp2_with fail
 clear k2
 rw [Cn.u64_ b HBB.out.1 (by have := HBB.out; omega)]
 generalize ((W.alloc (.cells (Ps.tkc (ti, se, ro, sz)).toArray 122)).alloc (.cells #[.int .u32 0, .int .u64 0, .bool false] 47)) = w2 at *
 have c0 := HX2.out.at_ 0 rfl
 have c2 := HX2.out.at_ 2 rfl
 have c3 := HX2.out.at_ 3 rfl
 refine wp_region_noPanic ?_
 by_cases h0 : b = 0
 ·subst h0
  refine Rg.s1 10 (fun w' => Below w2.heap.size w2 w') [] (Below.refl _ _).drew #[false, false, false, false, false, false, false, false, false, false] (fun hHeld => ?_)
  refine Rg.p1 0 (.some 14) ?_
  refine Rg.p1 1 (.some 15) ?_
  refine Rg.p1 2 (.some 16) ?_
  refine Rg.u1 3 (.some 17) ?_
  refine Rg.u1 4 (.some 18) ?_
  refine Rg.u1 5 (.some 19) ?_
  refine Rg.u1 6 (.some 20) ?_
  refine Rg.u1 7 (.some 21) ?_
  refine Rg.u1 8 (.some 22) ?_
  refine Rg.p1 9 (.some 23) ?_
  refine Rg.d1 ?_
  refine NoPanic.normal ?_
  have HYD := az HY2.out.drew
  have HBD := az (below_drew HB2.out)
  have d0 := HX2.out.drew.at_ 0 rfl
  have d2 := HX2.out.drew.at_ 2 rfl
  have d3 := HX2.out.drew.at_ 3 rfl
  clear c0 c2 c3
  go_wp2_with (refine Wk.store_all rfl rfl 47 (.tmp 4) (.tmp 33) rfl (W.heap.size + 1) [.int .u32 ti, _, .bool ro] rfl rfl 47 _ HYD.out HSE.out rfl rfl ?_; intro w5 hX hO; have HX5 := az hX; have HO5 := az hO; clear hX hO)
  refine bodyPost_ret (Wk.res_c rfl _ (W.heap.size + 1) 47 _ _ rfl HX5.out Tryz.underlying47 rfl HSE.out) rfl ?_
  refine ⟨?_, Wk.Only.below HBD.out HO5.out (Nat.le_succ _)⟩
  unfold Cn.served
  rw [if_pos (Or.inl rfl)]
  first | rfl | simp [Cn.exc]
 ·have hbz : (b == 0) = false := by simpa using h0
  refine Rg.s1 10 (fun w' => Below w2.heap.size w2 w') [] (Below.refl _ _).drew #[false, false, false, false, false, false, false, false, false, false] (fun hHeld => ?_)
  refine Rg.p1 0 (.some 14) ?_
  refine Rg.p1 1 (.some 15) ?_ (hy := by intro w'; (refine Eq.trans (b := .ok (Next.value (.bool false)) w') (by first | (go_simp; done) | (go_simp; simp_all; done) | (go_simp; omega)) ?_); first | done | with_reducible rfl)
  refine Rg.p1 2 (.some 16) ?_
  refine Rg.p1 3 (.some 17) ?_
  refine Rg.t1 4 (.some 18) hHeld ?_ (hy := by intro w' hS'; (have c1 := (HX2.out.below_ hS').at_ 3 rfl; go_simp); first | done | with_reducible rfl)
  refine Rg.p1 5 (.some 19) ?_
  refine Rg.p1 6 (.some 20) ?_
  refine Rg.p1 7 (.some 21) ?_
  refine Rg.p1 8 (.some 22) ?_
  refine Rg.p1 9 (.some 23) ?_
  refine Rg.d1 ?_
  refine NoPanic.normal ?_
  have HYD := az HY2.out.drew
  have HBD := az (below_drew HB2.out)
  have d0 := HX2.out.drew.at_ 0 rfl
  have d2 := HX2.out.drew.at_ 2 rfl
  have d3 := HX2.out.drew.at_ 3 rfl
  clear c0 c2 c3
  obtain ⟨q0, HQ⟩ : ∃ q : Int, Aside0 (18446744073709551615 / b = q) := ⟨_, ⟨rfl⟩⟩
  have hbp : 0 < b := by have := HBB.out; omega
  have hq0 : 0 ≤ q0 ∧ q0 ≤ 18446744073709551615 := by
   rw [← HQ.out]
   exact ⟨Int.ediv_nonneg (by decide) (by omega), Int.ediv_le_self _ (by decide)⟩
  have hmul : q0 * b ≤ 18446744073709551615 := by rw [← HQ.out]; exact Int.ediv_mul_le _ (by omega)
  have hw : IntKind.u64.wrap (Int.tdiv 18446744073709551615 b) = q0 := by
   rw [Int.tdiv_eq_ediv_of_nonneg (by decide), HQ.out]
   exact Cn.u64_ q0 hq0.1 (by omega)
  rw [hw]
  clear hw
  have HQB := az (And.intro hq0 hmul)
  clear hq0 hmul
  by_cases hsq : sz ≤ q0
  ·have hdd : decide (sz ≤ q0) = true := decide_eq_true hsq
   rw [hdd]
   go_wp2_with (refine Wk.store_all rfl rfl 47 (.tmp 4) (.tmp 33) rfl (W.heap.size + 1) [.int .u32 ti, _, .bool ro] rfl rfl 47 _ HYD.out HSE.out rfl rfl ?_; intro w5 hX hO; have HX5 := az hX; have HO5 := az hO; clear hX hO)
   refine bodyPost_ret (Wk.res_c rfl _ (W.heap.size + 1) 47 _ _ rfl HX5.out Tryz.underlying47 rfl HSE.out) rfl ?_
   refine ⟨?_, Wk.Only.below HBD.out HO5.out (Nat.le_succ _)⟩
   have h1 : sz * b ≤ 18446744073709551615 := Int.le_trans (Int.mul_le_mul_of_nonneg_right hsq (Int.le_of_lt hbp)) HQB.out.2
   have h2 : 0 ≤ sz * b := Int.mul_nonneg HT.out.2.2.1 (Int.le_of_lt hbp)
   unfold Cn.served
   rw [if_pos (Or.inr (by rw [HQ.out]; exact hsq))]
   show Ending.returned (.agg #[.int .u32 ti, .int .u64 (IntKind.u64.wrap (sz * b)), .bool ro]) = _
   rw [Cn.u64_ _ h2 (by omega)]
   rfl
  ·have hdd : decide (sz ≤ q0) = false := decide_eq_false hsq
   rw [hdd]
   go_wp2_with (refine Wk.store_all rfl rfl 47 (.tmp 4) (.tmp 33) rfl (W.heap.size + 1) [.int .u32 ti, _, .bool ro] rfl rfl 47 _ HYD.out HSE.out rfl rfl ?_; intro w5 hX hO; have HX5 := az hX; have HO5 := az hO; clear hX hO)
   refine bodyPost_ret (Wk.res_c rfl _ (W.heap.size + 1) 47 _ _ rfl HX5.out Tryz.underlying47 rfl HSE.out) rfl ?_
   refine ⟨?_, Wk.Only.below HBD.out HO5.out (Nat.le_succ _)⟩
   unfold Cn.served
   rw [if_neg (fun hh => hh.elim h0 (fun h => by rw [HQ.out] at h; change sz ≤ q0 at h; omega))]
   rfl
theorem Cn.rnext_ {A : Option Addr} {n c : Nat} {l : List Int} {W : World} {k m e : Int} {d : List Int} (h : Kd.C (Kd.int .u8) W A l.length l) (hn : l.length = n) (hc : n ≤ c) (hl : n ≤ 1000000) (hb : Sh.Bytes l) (hf : Gr.nx l = (k, d, m, e)) :
  Calls Tryz.prog 65 #[.slice A n c] W fun e' w' => ∃ A' c', e' = .returned (.tuple #[.agg #[.int .u32 k, .slice A' d.length c'], .int .i64 m, .int .i64 e]) ∧ Kd.R (Kd.int .u8) 5 w' W.heap.size (fun _ => True) (.slice A' d.length c') d ∧ Below W.heap.size W w' := by
 have HD := az h
 have HN := az hn
 have HC := az hc
 have HL := az hl
 have HBY := az hb
 have HF := az hf
 have HSZ := az Cn.sizeOpt
 have HB2 : Aside0 (Below W.heap.size W ((W.alloc (.cells (Cn.oc 0 (.slice none 0 0)).toArray 103)).alloc (.cells #[.int .i64 8, .int .i64 4, .int .i64 4] 3))) := ⟨below_alloc (below_alloc (Below.refl _ _) _) _⟩
 have HX2 : Aside0 (Wk.Blk ((W.alloc (.cells (Cn.oc 0 (.slice none 0 0)).toArray 103)).alloc (.cells #[.int .i64 8, .int .i64 4, .int .i64 4] 3)) W.heap.size 103 (Cn.oc 0 (.slice none 0 0))) := ⟨(Wk.Blk.new W 103 (Cn.oc 0 (.slice none 0 0))).alloc _⟩
 clear h hn hl hb hf hc
 go_enter Tryz.func65, Tryz.ntmps65
 go_wp2_with fail
 refine (Cn.rtake_ (ws := [8, 4, 4]) (Kd.C_below HD.out HB2.out) HN.out HC.out (Lit.two_reads W _ 3 .i64 [8, 4, 4] rfl (by decide)) rfl (by decide) HL.out (by decide) HBY.out).mono ?_
 rintro e' w3 ⟨A0, c0, A1, c1, rfl, hR0, hR1, hb3⟩
 have HB3 := az (below_then HB2.out HB2.out.size hb3)
 have HX3 := az (HX2.out.below_ hb3)
 have ht := Gr.takes844 l
 by_cases h16 : l.length < 16
 ·rw [if_pos h16] at ht
  rw [ht]
  have HE : Aside0 (k = 0 ∧ d = [] ∧ m = 0 ∧ e = 70) := ⟨by
   have := HF.out
   unfold Gr.nx at this
   rw [if_pos h16] at this
   simp only [Prod.mk.injEq] at this
   exact ⟨this.1.symm, this.2.1.symm, this.2.2.1.symm, this.2.2.2.symm⟩⟩
  clear hb3 hR0 hR1 h16 ht
  go_wp2_with (refine Wk.store_all rfl rfl 103 (.tmp 2) (.tmp 18) rfl W.heap.size (Cn.oc 0 (.slice none 0 0)) rfl rfl 103 _ HX3.out HSZ.out rfl rfl ?_; intro w4 hX hO; have HX4 := az hX; have HO4 := az hO; clear hX hO)
  refine bodyPost_ret (Wk.res_ctt rfl _ W.heap.size 103 _ _ rfl HX4.out Tryz.underlying103 rfl HSZ.out) rfl ?_
  obtain ⟨rfl, rfl, rfl, rfl⟩ := HE.out
  exact ⟨none, 0, rfl, Kd.R_nil _ _ _ _ _, Wk.Only.below HB3.out HO4.out (Nat.le_refl _)⟩
 have h16n : 16 ≤ n := by have := HN.out; omega
 rw [if_neg h16] at ht
 have hf := HF.out
 unfold Gr.nx at hf
 rw [if_neg h16] at hf
 have b2 := Gr.num_bound (l.drop 8) (fun x hx => HBY.out x (List.mem_of_mem_drop hx)) 4 (by decide)
 have b3 := Gr.num_bound (l.drop 12) (fun x hx => HBY.out x (List.mem_of_mem_drop hx)) 4 (by decide)
 have p4 : (256 : Int) ^ 4 = 4294967296 := by decide
 rw [p4] at b2 b3
 obtain ⟨r1, HR1⟩ : ∃ r1, Aside0 (l.drop 16 = r1) := ⟨_, ⟨rfl⟩⟩
 obtain ⟨nr, HNR⟩ : ∃ x, Aside0 (r1.length = x) := ⟨_, ⟨rfl⟩⟩
 rw [HR1.out] at ht hf
 simp only [ht, HNR.out] at hR0 hR1 ⊢
 have HNRL : Aside0 (nr + 16 = n) := ⟨by rw [← HNR.out, ← HR1.out, List.length_drop, HN.out]; omega⟩
 generalize Wi.num (l.take 8) = m1 at *
 generalize Wi.num ((l.drop 8).take 4) = m2 at *
 generalize Wi.num ((l.drop 12).take 4) = m3 at *
 obtain ⟨ab, rfl, q0, q1, q2⟩ := Cn.third_ hR0
 have HR3 := az (Kd.R_reads' hR1)
 rw [HNR.out] at HR3
 have HFF := az hf
 clear hb3 hR0 hR1 h16 ht hf HF p4
 by_cases h1 : m1 = 5280542401877725268
 rotate_left
 ·have HE : Aside0 (k = 0 ∧ d = [] ∧ m = 0 ∧ e = 71) := ⟨by
   have := HFF.out
   rw [if_pos h1] at this
   simp only [Prod.mk.injEq] at this
   exact ⟨this.1.symm, this.2.1.symm, this.2.2.1.symm, this.2.2.2.symm⟩⟩
  have e1 : (m1 != 5280542401877725268) = true := by simpa using h1
  go_wp2_with (refine Wk.store_all rfl rfl 103 (.tmp 2) (.tmp 23) rfl W.heap.size (Cn.oc 0 (.slice none 0 0)) rfl rfl 103 _ HX3.out HSZ.out rfl rfl ?_; intro w4 hX hO; have HX4 := az hX; have HO4 := az hO; clear hX hO)
  refine bodyPost_ret (Wk.res_ctt rfl _ W.heap.size 103 _ _ rfl HX4.out Tryz.underlying103 rfl HSZ.out) rfl ?_
  obtain ⟨rfl, rfl, rfl, rfl⟩ := HE.out
  exact ⟨none, 0, rfl, Kd.R_nil _ _ _ _ _, Wk.Only.below HB3.out HO4.out (Nat.le_refl _)⟩
 subst h1
 by_cases h2 : m3 > 1024
 ·have HE : Aside0 (k = 0 ∧ d = [] ∧ m = 0 ∧ e = 73) := ⟨by
   have := HFF.out
   rw [if_neg (fun h => h rfl), if_pos h2] at this
   simp only [Prod.mk.injEq] at this
   exact ⟨this.1.symm, this.2.1.symm, this.2.2.1.symm, this.2.2.2.symm⟩⟩
  go_wp2_with (refine Wk.store_all rfl rfl 103 (.tmp 2) (.tmp 28) rfl W.heap.size (Cn.oc 0 (.slice none 0 0)) rfl rfl 103 _ HX3.out HSZ.out rfl rfl ?_; intro w4 hX hO; have HX4 := az hX; have HO4 := az hO; clear hX hO)
  refine bodyPost_ret (Wk.res_ctt rfl _ W.heap.size 103 _ _ rfl HX4.out Tryz.underlying103 rfl HSZ.out) rfl ?_
  obtain ⟨rfl, rfl, rfl, rfl⟩ := HE.out
  exact ⟨none, 0, rfl, Kd.R_nil _ _ _ _ _, Wk.Only.below HB3.out HO4.out (Nat.le_refl _)⟩
 have hb30 : 0 ≤ m3 := b3.1
 have eu : IntKind.u64.wrap (nr : Int) = nr := Cn.u64_ _ (by omega) (by have := HNRL.out; have := HL.out; omega)
 by_cases h3 : m3 > (nr : Int)
 ·have HE : Aside0 (k = 0 ∧ d = [] ∧ m = 0 ∧ e = 70) := ⟨by
   have := HFF.out
   rw [if_neg (fun h => h rfl), if_neg h2, if_pos (by rw [HN.out]; have := HNRL.out; omega)] at this
   simp only [Prod.mk.injEq] at this
   exact ⟨this.1.symm, this.2.1.symm, this.2.2.1.symm, this.2.2.2.symm⟩⟩
  go_wp2_with (refine Wk.store_all rfl rfl 103 (.tmp 2) (.tmp 36) rfl W.heap.size (Cn.oc 0 (.slice none 0 0)) rfl rfl 103 _ HX3.out HSZ.out rfl rfl ?_; intro w4 hX hO; have HX4 := az hX; have HO4 := az hO; clear hX hO)
  refine bodyPost_ret (Wk.res_ctt rfl _ W.heap.size 103 _ _ rfl HX4.out Tryz.underlying103 rfl HSZ.out) rfl ?_
  obtain ⟨rfl, rfl, rfl, rfl⟩ := HE.out
  exact ⟨none, 0, rfl, Kd.R_nil _ _ _ _ _, Wk.Only.below HB3.out HO4.out (Nat.le_refl _)⟩
 have HE : Aside0 (k = m2 ∧ d = r1.take m3.toNat ∧ m = 16 + m3 ∧ e = 0) := ⟨by
  have := HFF.out
  rw [if_neg (fun h => h rfl), if_neg h2, if_neg (by rw [HN.out]; have := HNRL.out; omega)] at this
  simp only [Prod.mk.injEq] at this
  exact ⟨this.1.symm, this.2.1.symm, this.2.2.1.symm, this.2.2.2.symm⟩⟩
 have h2' : m3 ≤ 1024 := by omega
 have h3' : m3 ≤ (nr : Int) := by omega
 have e2 : IntKind.u32.wrap m2 = m2 := Bt.wraps_u32 m2 b2.1 (by omega)
 obtain ⟨n5, rfl⟩ := Int.eq_ofNat_of_zero_le hb30
 rw [Int.toNat_natCast] at HE
 have hn5 : n5 ≤ nr := by omega
 have hct := Wk.cut_to_ (P := Tryz.prog) 35 5 .i64 Tryz.underlying35 Cn.byte1 A1 c1 r1 (n5 : Int) n5 rfl (by rw [HNR.out]; exact hn5) (by rw [HNR.out]; exact HR3.out.2.1)
 rw [HNR.out] at hct
 have HTL : Aside0 ((r1.take n5).length = n5 ∧ n5 ≤ 1024) := ⟨by rw [List.length_take, HNR.out]; exact Nat.min_eq_left hn5, by omega⟩
 have HTC : Aside0 (Kd.C (Kd.int .u8) w3 A1 n5 (r1.take n5)) := ⟨by have := Kd.C_take (m := n5) (show Kd.C (Kd.int .u8) w3 A1 r1.length r1 by rw [HNR.out]; exact HR3.out.2.2) (by rw [HNR.out]; exact hn5); rwa [HTL.out.1] at this⟩
 obtain ⟨dd, HDD⟩ : ∃ dd, Aside0 (r1.take n5 = dd) := ⟨_, ⟨rfl⟩⟩
 rw [HDD.out] at HTL HTC HE
 have HLD : Aside0 ((([] : List Int).length + n5) * 1 ≤ 140737488355328) := ⟨by have := HTL.out.2; simp; omega⟩
 have HSB := az (HTL.out.1)
 have HRN : Aside0 (Kd.R (Kd.int .u8) 5 w3 w3.heap.size (fun _ => True) (.slice none 0 0) ([] : List Int)) := ⟨Kd.R_nil _ _ _ _ _⟩
 have Q1 := az q1
 have Q2 := az q2
 clear h2 h3 hn5
 go_wp2_with (at_builtin; refine Kd.R_append_rows (Kd.int .u8) (w0 := w3) w3.heap.size rfl (.tmp 37) (.tmp 43) 35 5 (.int .u8 0) 1 rfl Tryz.underlying35 Cl.infoByte rfl (by decide) (by decide) (.slice none 0 0) ([] : List Int) dd A1 n5 c1 (fun _ => True) (fun _ => False) rfl rfl HRN.out HTC.out (fun _ _ h => h) (fun _ h => h.elim) (fun _ _ => trivial) (Below.refl _ _) (Nat.le_refl _) HLD.out ?_; intro v4 w4 hr4 hb4 _ _; rw [List.nil_append] at hr4; obtain ⟨A4, c4, rfl⟩ := Kd.R_slice hr4; rw [HSB.out] at hr4 ⊢; have HR4 := az hr4; have HB4 := az hb4; clear hr4 hb4)
 clear hct q0 q1 q2
 have HX4 := az (HX3.out.below_ HB4.out)
 have HNE : Aside0 (ab ≠ W.heap.size) := ⟨fun he => by have := HX3.out.at_ 1 rfl; rw [← he, Q1.out] at this; cases this⟩
 have HQ1 := az ((HB4.out.cell (World.block_lt_of_cell? _ _ Q1.out)).trans Q1.out)
 have HQ2 := az ((HB4.out.cell (World.block_lt_of_cell? _ _ Q2.out)).trans Q2.out)
 have f1 : IntKind.i64.wrap (n5 : Int) = (n5 : Int) := by rw [IntKind.wrap_i64]; omega
 have f2 : IntKind.i64.wrap (16 + (n5 : Int)) = 16 + (n5 : Int) := by rw [IntKind.wrap_i64]; omega
 refine wp_region_noPanic ?_
 refine Rg.s1 14 (fun w' => w'.cell? ⟨ab, 1, none⟩ = some (.int .u64 m2) ∧ w'.cell? ⟨ab, 2, none⟩ = some (.int .u64 (n5 : Int))) [] (⟨((Below.refl _ _).drew.cell (World.block_lt_of_cell? _ _ HQ1.out)).trans HQ1.out, ((Below.refl _ _).drew.cell (World.block_lt_of_cell? _ _ HQ2.out)).trans HQ2.out⟩) #[false, false, false, false, false, false, false, false, false, false, false, false, false, false] (fun hHeld => ?_)
 refine Rg.p1 0 (.some 45) ?_
 refine Rg.p1 1 (.some 46) ?_
 refine Rg.p1 4 (.some 49) ?_
 refine Rg.p1 6 (.some 51) ?_
 refine Rg.p1 7 (.some 52) ?_
 refine Rg.t1 2 (.some 47) hHeld ?_ (hy := by intro w' hS'; (have c1 := hS'.1; go_simp); first | done | with_reducible rfl)
 refine Rg.p1 3 (.some 48) ?_
 refine Rg.p1 5 (.some 50) ?_
 refine Rg.t1 8 (.some 53) hHeld ?_ (hy := by intro w' hS'; (have c1 := hS'.2; go_simp); first | done | with_reducible rfl)
 refine Rg.p1 9 (.some 54) ?_
 refine Rg.p1 10 (.some 55) ?_
 refine Rg.o1 11 none (fun K hK => ?_)
 refine Wk.store_all_step (by rfl) rfl 103 (.tmp 2) (.tmp 50) rfl W.heap.size (Cn.oc m2 (.slice A4 n5 c4)) rfl rfl 103 _ (HX4.out.drew) HSZ.out rfl rfl ?_
 intro w6 hX hO
 have HX6 := az hX
 have HO6 := az hO
 clear hX hO
 refine hK.out _ _ ⟨(World.cell?_of_block (w := w4.drew) (HO6.out.block ab HNE.out)).trans hHeld.1, (World.cell?_of_block (w := w4.drew) (HO6.out.block ab HNE.out)).trans hHeld.2⟩ (fun hHeld => ?_)
 clear hK K
 refine Rg.p1 12 (.some 3) ?_
 refine Rg.p1 13 (.some 4) ?_
 refine Rg.d1 ?_
 refine NoPanic.normal ?_
 go_wp2_with fail
 refine bodyPost_ret (Wk.res_ctt rfl _ W.heap.size 103 _ _ rfl HX6.out Tryz.underlying103 rfl HSZ.out) rfl ?_
 obtain ⟨rfl, rfl, rfl, rfl⟩ := HE.out
 rw [HSB.out]
 have HBW := below_then HB3.out HB3.out.size HB4.out
 refine ⟨A4, c4, rfl, ?_, Wk.Only.below (below_drew HBW) HO6.out (Nat.le_refl _)⟩
 exact Wk.R_only (Kd.R_below (Kd.R_lower HR4.out HB3.out.size) (Below.refl _ _).drew) HX4.out.drew (by decide) HO6.out
theorem Cn.rasked_ {A : Option Addr} {n c : Nat} {l : List Int} {W : World} {s : ByteArray} {ws : List Int} {e : Int} (h : Kd.C (Kd.int .u8) W A l.length l) (hn : l.length = n) (hc : n ≤ c) (hl : n ≤ 100000) (hb : Sh.Bytes l) (hf : Gr.ak l = (s, ws, e)) :
  Calls Tryz.prog 96 #[.slice A n c] W fun e' w' => ∃ A' c', e' = .returned (.tuple #[.string s, .slice A' ws.length c', .int .i64 e]) ∧ Kd.R (Kd.int .u16) 44 w' W.heap.size (fun _ => True) (.slice A' ws.length c') ws ∧ Below W.heap.size W w' := by
 have HB2 : Aside0 (Below W.heap.size W (W.alloc (.cells #[.int .i64 4] 3))) := ⟨below_alloc (Below.refl _ _) _⟩
 have HD := az h
 have HN := az hn
 have HC := az hc
 have HL := az hl
 have HBY := az hb
 have HF := az hf
 clear h hn hl hb hf hc
 go_enter Tryz.func96, Tryz.ntmps96
 go_wp2_with fail
 refine (Cn.rtake_ (ws := [4]) (Kd.C_below HD.out HB2.out) HN.out HC.out (Lit.reads_new W _ 3 _ .i64 [4] rfl (by decide)) rfl (by decide) (by have := HL.out; omega) (by decide) HBY.out).mono ?_
 rintro e' w3 ⟨A0, c0, A1, c1, rfl, hR0, hR1, hb3⟩
 have HB3 := az (below_then HB2.out HB2.out.size hb3)
 have ht := Gr.takes4 l
 have HFF := az HF.out
 unfold Gr.ak at HFF
 by_cases h4 : l.length < 4
 ·rw [if_pos h4] at ht
  rw [ht]
  have HE : Aside0 (s = ⟨#[]⟩ ∧ ws = [] ∧ e = 74) := ⟨by
   have := HFF.out
   rw [if_pos (by exact h4)] at this
   simp only [Prod.mk.injEq] at this
   exact ⟨this.1.symm, this.2.1.symm, this.2.2.symm⟩⟩
  clear hb3 hR0 hR1 h4 ht
  go_wp2_with fail
  go_ret3
  obtain ⟨rfl, rfl, rfl⟩ := HE.out
  exact ⟨none, 0, rfl, Kd.R_nil _ _ _ _ _, HB3.out⟩
 rw [if_neg h4] at ht HFF
 have b4 := Gr.num_bound l HBY.out 4 (by decide)
 have p4 : (256 : Int) ^ 4 = 4294967296 := by decide
 rw [p4] at b4
 obtain ⟨x, HX⟩ : ∃ x, Aside0 (Wi.num (l.take 4) = x) := ⟨_, ⟨rfl⟩⟩
 obtain ⟨r1, HR1⟩ : ∃ r1, Aside0 (l.drop 4 = r1) := ⟨_, ⟨rfl⟩⟩
 obtain ⟨nr, HNR⟩ : ∃ x, Aside0 (r1.length = x) := ⟨_, ⟨rfl⟩⟩
 rw [HX.out] at b4
 rw [HX.out, HR1.out] at HFF ht
 rw [HNR.out] at HFF
 simp only [ht, HNR.out] at hR0 hR1 ⊢
 have HBR : Aside0 (Wi.Bytes r1) := ⟨fun y hy => HBY.out y (List.mem_of_mem_drop (by rw [HR1.out]; exact hy))⟩
 have HNRL : Aside0 (nr ≤ n) := ⟨by rw [← HNR.out, ← HR1.out, List.length_drop, HN.out]; omega⟩
 obtain ⟨ab, rfl, q0⟩ := Cn.first_ hR0
 have hx0 : 0 ≤ x := b4.1
 have hx1 : x < 4294967296 := b4.2
 have HQ0 := az q0
 have HR3 := az (Kd.R_reads' hR1)
 rw [HNR.out] at HR3
 clear hb3 hR0 hR1 ht h4 b4 p4
 have eu1 : IntKind.u64.wrap (nr : Int) = nr := Cn.u64_ _ (by omega) (by have := HNRL.out; have := HL.out; omega)
 by_cases h255 : x > 255
 ·rw [if_pos h255] at HFF
  have HE : Aside0 (s = ⟨#[]⟩ ∧ ws = [] ∧ e = 74) := ⟨by have := HFF.out; simp only [Prod.mk.injEq] at this; exact ⟨this.1.symm, this.2.1.symm, this.2.2.symm⟩⟩
  go_wp2_with fail
  go_ret3
  obtain ⟨rfl, rfl, rfl⟩ := HE.out
  exact ⟨none, 0, rfl, Kd.R_nil _ _ _ _ _, HB3.out⟩
 rw [if_neg h255] at HFF
 by_cases hxn : x > (nr : Int)
 ·rw [if_pos hxn] at HFF
  have HE : Aside0 (s = ⟨#[]⟩ ∧ ws = [] ∧ e = 74) := ⟨by have := HFF.out; simp only [Prod.mk.injEq] at this; exact ⟨this.1.symm, this.2.1.symm, this.2.2.symm⟩⟩
  go_wp2_with fail
  go_ret3
  obtain ⟨rfl, rfl, rfl⟩ := HE.out
  exact ⟨none, 0, rfl, Kd.R_nil _ _ _ _ _, HB3.out⟩
 rw [if_neg hxn] at HFF
 obtain ⟨m, rfl⟩ := Int.eq_ofNat_of_zero_le hx0
 rw [Int.toNat_natCast] at HFF
 have hmn : m ≤ nr := by omega
 have hct := Wk.cut_to_ (P := Tryz.prog) 35 5 .i64 Tryz.underlying35 Cn.byte1 A1 c1 r1 (m : Int) m rfl (by rw [HNR.out]; exact hmn) (by rw [HNR.out]; exact HR3.out.2.1)
 obtain ⟨A2, hcf, hC2⟩ := Wk.cut_from_ (P := Tryz.prog) 35 5 .i64 Tryz.underlying35 Cn.byte1 .u8 A1 c1 r1 (m : Int) m rfl (by rw [HNR.out]; exact hmn) (by rw [HNR.out]; exact HR3.out.2.1)
 rw [HNR.out] at hct hcf hC2
 have HTL : Aside0 ((r1.take m).length = m) := ⟨by rw [List.length_take, HNR.out]; exact Nat.min_eq_left hmn⟩
 have HTC : Aside0 (Kd.C (Kd.int .u8) w3 A1 m (r1.take m)) := ⟨by have := Kd.C_take (m := m) (show Kd.C (Kd.int .u8) w3 A1 r1.length r1 by rw [HNR.out]; exact HR3.out.2.2) (by rw [HNR.out]; exact hmn); rwa [HTL.out] at this⟩
 have HDL : Aside0 ((r1.drop m).length = nr - m) := ⟨by rw [List.length_drop, HNR.out]⟩
 have HDC : Aside0 (Kd.C (Kd.int .u8) w3 A2 (nr - m) (r1.drop m)) := ⟨by have := hC2 w3 HR3.out.2.2; rwa [HDL.out] at this⟩
 have hcv : (convert 35 9 (.slice A1 m c1)).run Tryz.prog w3 = .ok (.string (strOfNums (r1.take m))) w3 := Kd.C_string Tryz.underlying35 Tryz.underlying5 Tryz.underlying9 HTC.out
 have HB4 : Aside0 (Below w3.heap.size w3 (w3.alloc (.cells #[.int .i64 2] 3))) := ⟨below_alloc (Below.refl _ _) _⟩
 have HMN := az hmn
 have h255' : (m : Int) ≤ 255 := by omega
 have hxn' : (m : Int) ≤ (nr : Int) := by omega
 clear hC2 hmn h255 hxn hx0 hx1
 go_wp2_with fail
 clear hct hcf hcv q0 h255' hxn' eu1
 have HBX := az (below_then HB3.out HB3.out.size HB4.out)
 have HBR2 : Aside0 (Wi.Bytes (r1.drop m)) := ⟨fun y hy => HBR.out y (List.mem_of_mem_drop hy)⟩
 refine (Cn.rtake_ (ws := [2]) (by rw [HDL.out]; exact Kd.C_below HDC.out HB4.out) HDL.out (by have := HR3.out.2.1; omega) (Lit.reads_new w3 _ 3 _ .i64 [2] rfl (by decide)) rfl (by decide) (by have := HNRL.out; have := HL.out; omega) (by decide) HBR2.out).mono ?_
 rintro e' w5 ⟨A5, c5, A6, c6, rfl, hR5, hR6, hb5⟩
 have HB5 := az (below_then HBX.out HBX.out.size hb5)
 have ht := Gr.takes2 (r1.drop m)
 obtain ⟨r2, HR2⟩ : ∃ r2, Aside0 (r1.drop m = r2) := ⟨_, ⟨rfl⟩⟩
 rw [HR2.out] at ht hR5 hR6 HFF HDL HBR2 ⊢
 by_cases h2 : r2.length < 2
 ·rw [if_pos h2] at ht HFF
  rw [ht]
  have HE : Aside0 (s = ⟨#[]⟩ ∧ ws = [] ∧ e = 74) := ⟨by have := HFF.out; simp only [Prod.mk.injEq] at this; exact ⟨this.1.symm, this.2.1.symm, this.2.2.symm⟩⟩
  clear hb5 hR5 hR6 h2 ht
  go_wp2_with fail
  go_ret3
  obtain ⟨rfl, rfl, rfl⟩ := HE.out
  exact ⟨none, 0, rfl, Kd.R_nil _ _ _ _ _, HB5.out⟩
 rw [if_neg h2] at ht HFF
 have b2 := Gr.num_bound r2 HBR2.out 2 (by decide)
 have p2 : (256 : Int) ^ 2 = 65536 := by decide
 rw [p2] at b2
 obtain ⟨y, HY⟩ : ∃ x, Aside0 (Wi.num (r2.take 2) = x) := ⟨_, ⟨rfl⟩⟩
 obtain ⟨r3, HR3'⟩ : ∃ r3, Aside0 (r2.drop 2 = r3) := ⟨_, ⟨rfl⟩⟩
 obtain ⟨nq, HNQ⟩ : ∃ x, Aside0 (r3.length = x) := ⟨_, ⟨rfl⟩⟩
 rw [HY.out] at b2
 rw [HY.out, HR3'.out] at ht HFF
 rw [HNQ.out] at HFF
 simp only [ht, HNQ.out] at hR5 hR6 ⊢
 have HB3R : Aside0 (Wi.Bytes r3) := ⟨fun z hz => HBR2.out z (List.mem_of_mem_drop (by rw [HR3'.out]; exact hz))⟩
 have HNQL : Aside0 (nq ≤ 100000) := ⟨by have e1 := HNQ.out; rw [← HR3'.out, List.length_drop, HDL.out] at e1; have := HNRL.out; have := HL.out; omega⟩
 obtain ⟨ab2, rfl, q0⟩ := Cn.first_ hR5
 have hy0 : 0 ≤ y := b2.1
 have hy1 : y ≤ 65535 := by omega
 have HR6 := az (Kd.R_reads' hR6)
 rw [HNQ.out] at HR6
 clear hb5 hR5 hR6 ht h2 b2 p2
 have eu2 : IntKind.u64.wrap (nq : Int) = nq := Cn.u64_ _ (by omega) (by have := HNQL.out; omega)
 have eu3 : IntKind.u64.wrap (2 * y) = 2 * y := Cn.u64_ _ (by omega) (by omega)
 by_cases hq : (nq : Int) = 2 * y
 rotate_left
 ·rw [if_pos hq] at HFF
  have HE : Aside0 (s = ⟨#[]⟩ ∧ ws = [] ∧ e = 74) := ⟨by have := HFF.out; simp only [Prod.mk.injEq] at this; exact ⟨this.1.symm, this.2.1.symm, this.2.2.symm⟩⟩
  have e1 : ((nq : Int) != 2 * y) = true := by simpa using hq
  go_wp2_with fail
  go_ret3
  obtain ⟨rfl, rfl, rfl⟩ := HE.out
  exact ⟨none, 0, rfl, Kd.R_nil _ _ _ _ _, HB5.out⟩
 rw [if_neg (fun h => h hq)] at HFF
 have HE : Aside0 (s = strOfNums (r1.take m) ∧ ws = Gr.pairs r3 ∧ e = 0) := ⟨by have := HFF.out; simp only [Prod.mk.injEq] at this; exact ⟨this.1.symm, this.2.1.symm, this.2.2.symm⟩⟩
 have e1 : ((nq : Int) != 2 * y) = false := by simpa using hq
 obtain ⟨k, rfl⟩ := Int.eq_ofNat_of_zero_le hy0
 have HNK : Aside0 (nq = 2 * k) := ⟨by omega⟩
 clear hq HFF
 go_wp2_with fail
 clear e1 eu2 eu3 hy0 hy1 q0
 have HW0 : Aside0 (Kd.R (Kd.int .u16) 44 w5 w5.heap.size (fun _ => True) (.slice none 0 0) ([] : List Int)) := ⟨Kd.R_nil _ _ _ _ _⟩
 have HP0 : Aside0 (([] : List Int) ++ Gr.pairs (r3.drop (2 * 0)) = Gr.pairs r3) := ⟨rfl⟩
 have HL0 : Aside0 (([] : List Int).length = 0) := ⟨rfl⟩
 go_loopw [12, 13] (fun vx ix wr => ∃ (j na ca : Nat) (Aa : Option Addr) (acc : List Int), vx = .slice Aa na ca ∧ ix = .int .i64 (2 * (j : Int)) ∧ j ≤ k ∧ Aside0 (acc.length = j) ∧ Aside0 (na = j) ∧ Aside0 (acc ++ Gr.pairs (r3.drop (2 * j)) = Gr.pairs r3) ∧ Aside0 (Kd.R (Kd.int .u16) 44 wr w5.heap.size (fun _ => True) (.slice Aa na ca) acc) ∧ Aside0 (Below w5.heap.size w5 wr)) (fun _ ix _ => 2 * k + 1 - (intOf ix).toNat)
 case atStart => exact ⟨0, 0, 0, none, [], rfl, rfl, Nat.zero_le _, HL0, ⟨rfl⟩, HP0, HW0, ⟨Below.refl _ _⟩⟩
 case round =>
  clear HW0 HP0 HL0
  obtain ⟨j, na, ca, Aa, acc, rfl, rfl, hj, HAL, HNA, HAP, HRA, HB⟩ := hrel
  have HCR : Aside0 (Kd.C (Kd.int .u8) wr A6 nq r3) := ⟨Kd.C_below HR6.out.2.2 HB.out⟩
  by_cases hjk : j < k
  ·have hlt : 2 * (j : Int) < (nq : Int) := by have := HNK.out; omega
   have hj5 : (j : Int) ≤ 50000 := by have := HNK.out; have := HNQL.out; omega
   go_wp2_with fail
   obtain ⟨ad, hA6, u0, HU0⟩ : ∃ ad, A6 = some ad ∧ ∃ u : Int, Aside0 (u = Go.Proofs.YtgljicdpcapgnaaGreatDoorW.PrintWords.rd r3 ((2 * j : Nat) : Int) ∧ (0 ≤ u ∧ u ≤ 255) ∧ wr.cell? (ad.add (2 * j)) = some (.int .u8 u)) := by
    obtain ⟨ad, e, hx⟩ := Kd.at_int HCR.out ((2 * j : Nat) : Int) (by omega) (by have := HNK.out; omega)
    rw [Int.toNat_natCast] at hx
    exact ⟨ad, e, _, ⟨rfl, HB3R.out _ (Wi.rd_mem r3 (2 * j) (by rw [HNQ.out]; have := HNK.out; omega)), hx⟩⟩
   obtain ⟨u1, HU1⟩ : ∃ u : Int, Aside0 (u = Go.Proofs.YtgljicdpcapgnaaGreatDoorW.PrintWords.rd r3 ((2 * j + 1 : Nat) : Int) ∧ (0 ≤ u ∧ u ≤ 255) ∧ wr.cell? (ad.add (2 * j + 1)) = some (.int .u8 u)) := by
    obtain ⟨ad', e, hx⟩ := Kd.at_int HCR.out ((2 * j + 1 : Nat) : Int) (by omega) (by have := HNK.out; omega)
    rw [Int.toNat_natCast] at hx
    obtain rfl := Option.some.inj (hA6.symm.trans e)
    exact ⟨_, ⟨rfl, HB3R.out _ (Wi.rd_mem r3 (2 * j + 1) (by rw [HNQ.out]; have := HNK.out; omega)), hx⟩⟩
   subst hA6
   have f1 : IntKind.i64.wrap (2 * (j : Int) + 1) = 2 * (j : Int) + 1 := by rw [IntKind.wrap_i64]; omega
   have f2 : (2 * (j : Int)).toNat = 2 * j := by omega
   have f3 : (2 * (j : Int) + 1).toNat = 2 * j + 1 := by omega
   have f4 : 0 ≤ 2 * (j : Int) := by omega
   have f5 : 2 * (j : Int) < (nq : Int) := by omega
   have f6 : 0 ≤ 2 * (j : Int) + 1 := by omega
   have f7 : 2 * (j : Int) + 1 < (nq : Int) := by have := HNK.out; omega
   refine wp_region_noPanic ?_
   refine Rg.s1 17 (fun w' => Below wr.heap.size wr w') [14, 15] (Below.refl _ _).drew #[false, false, false, false, false, false, false, false, false, false, false, false, false, false, false, false, false] (fun hHeld => ?_)
   refine Rg.p1 0 (.some 75) ?_
   refine Rg.p1 1 (.some 76) ?_
   refine Rg.p1 2 (.some 77) ?_
   refine Rg.p1 3 (.some 78) ?_
   refine Rg.p1 7 (.some 82) ?_
   refine Rg.p1 8 (.some 83) ?_
   refine Rg.p1 9 (.some 84) ?_
   refine Rg.p1 10 (.some 85) ?_
   refine Rg.t1 4 (.some 79) hHeld ?_ (hy := by intro w' hS'; (have c1 := (hS'.cell (World.block_lt_of_cell? _ _ HU0.out.2.2)).trans HU0.out.2.2; go_simp); first | done | with_reducible rfl)
   refine Rg.p1 5 (.some 80) ?_
   refine Rg.p1 6 (.some 81) ?_
   refine Rg.t1 11 (.some 86) hHeld ?_ (hy := by intro w' hS'; (have c1 := (hS'.cell (World.block_lt_of_cell? _ _ HU1.out.2.2)).trans HU1.out.2.2; rw [Addr.add, if_neg (by omega)] at c1; go_simp); first | done | with_reducible rfl)
   refine Rg.p1 12 (.some 87) ?_
   refine Rg.p1 13 (.some 88) ?_
   refine Rg.l1 14 (.some 89) (fun K hK => ?_)
   refine value_ (w1 := wr.drew.alloc (.cells #[.int .u16 (bits .or .u16 (IntKind.u16.wrap ((IntKind.u16.wrap u0) * 256)) (IntKind.u16.wrap u1))] 44)) (v := .slice (some ⟨wr.drew.heap.size, 0, none⟩) 1 1) (by rfl) rfl (by first | (go_simp; done) | (go_simp; rfl)) ?_
   refine hK.out _ _ ?_
   clear hK K
   refine Rg.n1 ?_
   have HBD : Aside0 (Below w5.heap.size w5 wr.drew ∧ w5.heap.size ≤ wr.drew.heap.size) := ⟨HB.out.drew, HB.out.drew.size⟩
   have HRD : Aside0 (Kd.R (Kd.int .u16) 44 wr.drew w5.heap.size (fun _ => True) (.slice Aa na ca) acc) := ⟨Kd.R_below HRA.out (Below.refl _ _).drew⟩
   have HLM : Aside0 ((acc.length + 1) * 2 ≤ 140737488355328) := ⟨by have := HAL.out; omega⟩
   refine Rg.l1 15 (.some 90) (fun K hK => ?_)
   refine Kd.R_append_step (Kd.int .u16) (w0 := w5) (W := wr.drew) w5.heap.size (by rfl) (.tmp 75) (.tmp 89) 134 44 (.int .u16 0) 2 rfl Tryz.underlying134 (by rfl) rfl (by decide) (by omega) (.slice Aa na ca) acc (bits .or .u16 (IntKind.u16.wrap ((IntKind.u16.wrap u0) * 256)) (IntKind.u16.wrap u1)) [.int .u16 (bits .or .u16 (IntKind.u16.wrap ((IntKind.u16.wrap u0) * 256)) (IntKind.u16.wrap u1))] (fun _ => True) (fun _ => False) rfl rfl rfl (fun _ h => h.elim) (fun _ _ => trivial) HRD.out HBD.out.1 HBD.out.2 HLM.out ?_
   intro v1 w6 hr6 hb6 hg6 _
   obtain ⟨A9, c9, rfl⟩ := Kd.R_slice hr6
   have HR9 := az hr6
   have HB9 := az hb6
   have HG9 := az hg6
   clear hr6 hb6 hg6
   refine hK.out _ _ ?_
   clear hK K
   refine Rg.n1 ?_
   refine Rg.p1 16 (.some 12) ?_
   refine Rg.d1 ?_
   refine NoPanic.normal ?_
   have HX : Aside0 (bits .or .u16 (IntKind.u16.wrap ((IntKind.u16.wrap u0) * 256)) (IntKind.u16.wrap u1) = u0 * 256 + u1) := ⟨Gr.or_16 _ _ HU0.out.2.1.1 HU0.out.2.1.2 HU1.out.2.1.1 HU1.out.2.1.2⟩
   rw [HX.out] at HR9
   clear f1 f2 f3 f4 f5 f6 f7
   go_wp2_with fail
   go_roundw
   case rel =>
    refine ⟨j + 1, _, c9, A9, acc ++ [u0 * 256 + u1], rfl, by first | go_num | (push_cast; congr 1; omega), by omega, ⟨by rw [List.length_append, HAL.out]; rfl⟩, ⟨by rw [HAL.out]⟩, ⟨?_⟩, ⟨by have h9 := HR9.out; rw [show (acc ++ [u0 * 256 + u1]).length = acc.length + 1 from by rw [List.length_append]; rfl] at h9; exact h9⟩, HB9⟩
    have e1 := HAP.out
    rw [Gr.pairs_two r3 (2 * j) (by rw [HNQ.out]; have := HNK.out; omega), ← HU0.out.1, ← HU1.out.1] at e1
    rw [List.append_assoc]
    exact e1
   case measure => simp [intOf]; omega
  ·obtain rfl : k = j := by omega
   have hge : ¬ 2 * (k : Int) < (nq : Int) := by have := HNK.out; omega
   have hj5 : (k : Int) ≤ 50000 := by have := HNK.out; have := HNQL.out; omega
   go_wp2_with fail
   go_ret3
   obtain ⟨rfl, rfl, rfl⟩ := HE.out
   have e1 := HAP.out
   rw [List.drop_of_length_le (by rw [HNQ.out]; have := HNK.out; omega), Gr.pairs, List.append_nil] at e1
   ·subst e1
    obtain rfl : na = (Gr.pairs r3).length := by rw [HNA.out, ← HAL.out]
    exact ⟨Aa, ca, rfl, Kd.R_lower HRA.out HB5.out.size, below_then HB5.out HB5.out.size HB.out⟩
   ·exact fun _ _ _ h => by cases h
namespace Cn
theorem check_wf (l : List Ps.Tn) (s : ByteArray) : Ps.TkWf (Ps.check l s).1 := by
  have hz : Ps.TkWf Ps.zt := by unfold Ps.TkWf Ps.zt; decide
  have ht : Ps.TkWf (Ps.tok (Ps.got s)) := Ps.tok_wf _ (Ps.got_bytes s)
  unfold Ps.check
  split
  · split
    · exact hz
    · unfold Ps.verdict
      split
      · exact hz
      · split
        · exact hz
        · split
          · exact hz
          · exact ht
  · exact hz
theorem str_size (d : List Int) : (strOfNums d).size = d.length := by simp [strOfNums, ByteArray.size]
end Cn
theorem oldway_.calls {W : World} {ok ex : Nat → Prop} {p tb bs : Nat} {c : Cn.St} {l : List Ps.Tn} (h : Cn.Cn W ok ex p tb c) (hf : ∀ k, W.heap.size ≤ k → ok k) (hb : 0 ≤ c.blk ∧ c.blk ≤ 65535) (hK : Sh.Ks W) (hT : Ps.Tb W bs tb l) (hW : ∀ x ∈ l, Ps.TnWf x) {A : Option Addr} {n cd : Nat} {k : Int} {d : List Int} (hd : Kd.C (Kd.int .u8) W A d.length d) (hn : d.length = n) (hl : n ≤ 1000000) (hs : c.send.length ≤ 10000000000000) :
  Calls Tryz.prog 72 #[.pointer (some ⟨p, 0, none⟩), .agg #[.int .u32 k, .slice A n cd]] W fun e w' => e = .returned (.tuple #[]) ∧ Cn.Cn w' ok ex p tb (Cn.oldway l c d) ∧ Cn.Fr W w' ok := by
 obtain ⟨pp, vk, vs, hv⟩ := h
 have HV := az hv
 have HF := az hf
 have HBK := az hb
 have HK := az hK
 have HT := az hT
 have HW := az hW
 have HD := az hd
 have HN := az hn
 have HL := az hl
 have HS := az hs
 have HS1 := az Cn.size1
 have HS2 := az Pi.size31
 have HSK := az Ps.sizeTk
 have HSE := az Cn.sizeEx
 clear hv hf hb hK hT hW hd hn hl hs
 have HB1 : Aside0 (Below W.heap.size W (W.alloc (.cells #[.int .u32 k, .slice A n cd] 103))) := ⟨below_alloc (Below.refl _ _) _⟩
 have HX1 : Aside0 (Wk.Blk (W.alloc (.cells #[.int .u32 k, .slice A n cd] 103)) W.heap.size 103 [.int .u32 k, .slice A n cd]) := ⟨Wk.Blk.new W _ [.int .u32 k, .slice A n cd]⟩
 go_enter Tryz.func72, Tryz.ntmps72
 go_wp2_with fail
 generalize W.alloc (.cells #[.int .u32 k, .slice A n cd] 103) = w1 at *
 obtain ⟨g3, HG3⟩ : ∃ g, Aside0 (W.heap.size = g) := ⟨_, ⟨rfl⟩⟩
 have HV1 := az (HV.out.below HB1.out)
 obtain ⟨ti, se, ro, sz, er, HCK⟩ : ∃ ti se ro sz er, Aside0 (Ps.check l (strOfNums d) = ((ti, se, ro, sz), er)) := ⟨_, _, _, _, _, ⟨rfl⟩⟩
 have HTK : Aside0 (Ps.TkWf (ti, se, ro, sz)) := ⟨by have := Cn.check_wf l (strOfNums d); rw [HCK.out] at this; exact this⟩
 have HCH : Aside0 (∀ w', Below w1.heap.size w1 w' → Calls Tryz.prog 86 #[.pointer (some ⟨tb, 0, none⟩), .string (strOfNums d)] w' fun e w2 => e = .returned (.tuple #[.agg #[.int .u32 ti, .int .u32 se, .bool ro, .int .u64 sz], .int .u16 er]) ∧ Below w'.heap.size w' w2) := ⟨fun w' hb' => by
  have hbw := below_then HB1.out HB1.out.size hb'
  refine (check_.calls tb bs l (strOfNums d) w' (HK.out.below hbw) (HT.out.below hbw) (by rw [Cn.str_size, HN.out]; exact HL.out) HW.out).mono ?_
  rintro e w2 ⟨rfl, hb2⟩
  rw [HCK.out]
  exact ⟨rfl, hb2⟩⟩
 rw [HG3.out] at HX1 ⊢
 refine wp_region_noPanic ?_
 refine Rg.s1 14 (fun w' => Below w1.heap.size w1 w') [] (Below.refl _ _).drew #[false, false, false, false, false, false, false, false, false, false, false, false, false, false] (fun hHeld => ?_)
 refine Rg.p1 0 (.some 7) ?_
 refine Rg.p1 1 (.some 8) ?_
 refine Rg.p1 2 (.some 9) ?_
 refine Rg.t1 3 (.some 10) hHeld ?_ (hy := by intro w' hS'; (have c1 := (HV1.out.below hS').blk.at_ 1 rfl; go_simp); first | done | with_reducible rfl)
 refine Rg.p1 4 (.some 11) ?_
 refine Rg.t1 5 (.some 12) hHeld ?_ (hy := by intro w' hS'; (have c1 := (HX1.out.below_ hS').at_ 1 rfl; go_simp); first | done | with_reducible rfl)
 refine Rg.t1 6 (.some 13) hHeld ?_ (hy := by intro w' hS'; (have c1 : (convert 35 9 (.slice A n cd)).run Tryz.prog w' = .ok (.string (strOfNums d)) w' := Kd.C_string Tryz.underlying35 Tryz.underlying5 Tryz.underlying9 (by have := Kd.C_below HD.out (below_then HB1.out HB1.out.size hS'); rw [HN.out] at this; exact this); go_simp); first | done | with_reducible rfl)
 have HWD : Aside0 (w1.heap.size ≤ w1.drew.heap.size) := ⟨Nat.le_refl _⟩
 generalize hwd : w1.drew = wd at *
 refine join_ (σ := Nat) (fuel' := 2) #[true, true, true, true, true, true, true, true, true, true, true, true, false, false] (fun b4 => [(14, (.tuple #[.agg #[.int .u32 ti, .int .u32 se, .bool ro, .int .u64 sz], .int .u16 er])), (6, (.tuple #[.agg #[.int .u32 ti, .int .u32 se, .bool ro, .int .u64 sz], .int .u16 er])), (15, (.agg #[.int .u32 ti, .int .u32 se, .bool ro, .int .u64 sz])), (16, .int .u16 er), (4, .pointer (some ⟨b4, 0, none⟩))]) (fun b4 w' => Below w1.heap.size w1 w' ∧ w1.heap.size ≤ b4 ∧ Wk.Blk w' b4 122 Ps.zt4) ?_ (fun hJ => ?_)
 ·rintro b4 w5 ⟨hB5, hge, hX5⟩
  refine norm_ (a' := ?_) ?_ ?_
  rotate_left
  ·show Act.put (Act.put (Act.put (Act.put (Act.put _ (some 14) _) (some 6) _) (some 15) _) (some 16) _) (some 4) _ = _
   simp only [Act.put, List.setIfInBounds_toArray, List.set_cons_zero, List.set_cons_succ]
   rfl
  change Wk.Blk w5 b4 _ _ at hX5
  change w1.heap.size ≤ b4 at hge
  have HX5 := az hX5
  have HB5 := az hB5
  have HGE := az hge
  clear hX5 hB5 hge
  refine one_ (i := 12) (N := none) #[true, true, true, true, true, true, true, true, true, true, true, true, true, false] rfl rfl (by kernel_rfl) (by decide) (fun K hK => ?_)
  refine Wk.store_all_step (by rfl) rfl 122 (.tmp 4) (.tmp 15) rfl b4 (Ps.tkc (ti, se, ro, sz)) rfl rfl 122 Ps.zt4 HX5.out HSK.out rfl rfl ?_
  intro w6 hX hO
  have HX6 := az hX
  have HB6 := az (Wk.Only.below HB5.out hO HGE.out)
  clear hX hO
  refine hK.out _ _ HB6.out (fun hHeld => ?_)
  clear hK K
  refine pure_ (i := 13) (N := (some 5)) (v := ?_) (a' := ?_) #[true, true, true, true, true, true, true, true, true, true, true, true, true, true] rfl rfl (by kernel_rfl) (fun _ _ _ h => h) (Or.inl ⟨by rfl, ?_⟩) ?_ ?_
  rotate_left
  ·intro w'
   go_simp
   first | done | with_reducible rfl
  rotate_left
  ·simp only [Act.put, List.setIfInBounds_toArray, List.set_cons_zero, List.set_cons_succ]
   rfl
  refine done_ (by kernel_rfl) ?_
  refine NoPanic.normal ?_
  have HBW := az (below_then HB1.out HB1.out.size HB6.out)
  have HV6 := az (HV1.out.below HB6.out)
  have HX16 := az (HX1.out.below_ HB6.out)
  have c1 := HX16.out.at_ 1 rfl
  clear HV1 HX1 HB1 HX5 HB5 HGE HCH hHeld HWD hwd
  by_cases he : er = 0
  ·subst he
   by_cases hn : (n : Int) > 255
   ·skip
    go_wp2_with fail
    refine (close_.calls ⟨pp, vk, vs, HV6.out⟩).mono ?_
    rintro e w7 ⟨rfl, hc7, hf7⟩
    have HC7 := az hc7
    have HF7 := az ((Cn.Fr.of_below HBW.out ok).trans hf7)
    clear hc7 hf7
    go_wp2_with fail
    refine bodyPost_ret (results_none rfl _ _ _) rfl ?_
    refine ⟨rfl, ?_, HF7.out⟩
    unfold Cn.oldway
    rw [HCK.out, if_pos (Or.inr (by rw [HN.out]; omega))]
    exact HC7.out
   ·have HNN : Aside0 (n ≤ 255) := ⟨by omega⟩
    have hrun : (Instr.loadAt 122 (.pointer (some ⟨b4, 0, none⟩))).run Tryz.prog w6 = .ok (.agg #[.int .u32 ti, .int .u32 se, .bool ro, .int .u64 sz]) w6 := Wk.run_load_blk (P := Tryz.prog) 122 b4 0 (Ps.tkc (ti, se, ro, sz)) _ HX6.out rfl Tryz.underlying122 rfl HSK.out
    go_wp2_with (refine Wk.load rfl 122 (.tmp 4) rfl _ (.pointer (some ⟨b4, 0, none⟩)) rfl hrun ?_)
    clear hrun c1
    refine (served_.calls ⟨pp, vk, vs, HV6.out⟩ HBK.out (ti, se, ro, sz) HTK.out).mono ?_
    rintro e w7 ⟨rfl, hb7⟩
    obtain ⟨x, HXE⟩ : ∃ x, Aside0 (Cn.served c.blk (ti, se, ro, sz) = x) := ⟨_, ⟨rfl⟩⟩
    rw [HXE.out]
    have HV7 := az (HV6.out.below hb7)
    have HB7 := az (below_then HBW.out HBW.out.size hb7)
    clear hb7 HV6 HB6 HX6 HX16
    go_wp2_with (first
     | (refine Wk.store rfl rfl 47 (.tmp 33) (.tmp 31) rfl p 6 (.agg (Cn.exc x).toArray) (Cn.exc x) rfl rfl (by simp [Value.cells]) 61 _ HV7.out.blk HSE.out (Nat.le_of_ble_eq_true rfl) rfl ?_; intro w8 hX hO; have HO8 := az hO; have HV8 : Aside0 (Cn.Cv w8 ok ex p tb pp vk vs { c with ex := x }) := ⟨HV7.out.turn hO hX rfl rfl rfl⟩; clear hX hO)
     | (refine Wk.store rfl rfl 5 (.tmp 35) (.const (.int .u8 3)) rfl p 5 (.int .u8 3) [.int .u8 3] rfl rfl rfl 61 _ HV8.out.blk HS1.out (Nat.le_of_ble_eq_true rfl) rfl ?_; intro w9 hX hO; have HO9 := az hO; have HV9 : Aside0 (Cn.Cv w9 ok ex p tb pp vk vs { c with ex := x, st := 3 }) := ⟨HV8.out.turn hO hX rfl rfl rfl⟩; clear hX hO))
    have HFW : Aside0 (Cn.Fr W w9 ok ∧ W.heap.size ≤ w9.heap.size) := ⟨((Cn.Fr.of_below HB7.out ok).trans (Cn.Fr.of_only HO8.out HV7.out.okp)).trans (Cn.Fr.of_only HO9.out HV7.out.okp), by have := HB7.out.size; have := HO8.out.size; have := HO9.out.size; omega⟩
    clear HV7 HV8 HO8 HO9 HB7
    refine wp_region_noPanic ?_
    refine Rg.s1 18 (fun w' => Below w9.heap.size w9 w') [14, 17] (Below.refl _ _).drew #[false, false, false, false, false, false, false, false, false, false, false, false, false, false, false, false, false, false] (fun hHeld => ?_)
    refine Rg.p1 0 (.some 36) ?_
    refine Rg.p1 1 (.some 37) ?_
    refine Rg.p1 2 (.some 38) ?_
    refine Rg.p1 3 (.some 39) ?_
    refine Rg.t1 4 (.some 40) hHeld ?_ (hy := by intro w' hS'; (have c1 := (HV9.out.below hS').blk.at_ 4 rfl; go_simp); first | done | with_reducible rfl)
    refine Rg.p1 5 (.some 41) ?_
    refine Rg.p1 6 (.some 42) ?_
    refine Rg.p1 7 (.some 43) ?_
    refine Rg.t1 8 (.some 44) hHeld ?_ (hy := by intro w' hS'; (have hl := Wk.run_load_blk (P := Tryz.prog) 47 p 6 (Cn.exc x) _ (HV9.out.below hS').blk rfl Tryz.underlying47 rfl HSE.out; refine (Wk.exec_load 47 (.tmp 43) rfl _ _ rfl hl).trans ?_); first | done | with_reducible rfl)
    refine Rg.p1 9 (.some 45) ?_
    refine Rg.p1 10 (.some 46) ?_
    refine Rg.p1 11 (.some 47) ?_
    refine Rg.t1 12 (.some 48) hHeld ?_ (hy := by intro w' hS'; (have c1 := (HV9.out.below hS').blk.at_ 9 rfl; go_simp); first | done | with_reducible rfl)
    refine Rg.o1 13 (.some 49) (fun K hK => ?_)
    refine call_ 88 #[.agg (Cn.exc x).toArray, .bool c.sh] (by rfl) rfl (by go_simp) ?_
    refine (Cn.old_ _ x c.sh).mono ?_
    rintro e w10 ⟨A2, c2, rfl, hR2, hb2⟩
    have HR2 := az hR2
    have HB2 := az (below_then hHeld hHeld.size hb2)
    clear hR2 hb2
    refine ⟨_, rfl, ?_⟩
    refine hK.out _ _ HB2.out (fun hHeld => ?_)
    clear hK K
    refine Rg.n1 ?_
    have HV10 := az (HV9.out.below HB2.out)
    have HLR : Aside0 ((Cn.old x c.sh).length ≤ 2000000) := ⟨by
     have := Cn.packs_len4 [8, 2] [x.2.1, Cn.can x.2.2] (by simp)
     unfold Cn.old
     rw [List.length_append]
     split
     ·simp; omega
     ·rw [List.length_replicate]; omega⟩
    have HFS : Aside0 (∀ j, w10.heap.size ≤ j → ok j ∧ some j ≠ vk.ownBlock) := ⟨HV10.out.freshK (fun j hj => HF.out j (Nat.le_trans HFW.out.2 (Nat.le_trans HB2.out.size hj)))⟩
    refine Rg.l1 14 (.some 50) (fun K hK => ?_)
    refine Kd.R_append_rows_step (Kd.int .u8) (w0 := w10) (W := w10) 0 (by rfl) (.tmp 40) (.tmp 49) 35 5 (.int .u8 0) 1 rfl Tryz.underlying35 Cn.infoByte rfl (by decide) (by omega) vs c.send (Cn.old x c.sh) A2 _ c2 (fun k => ok k ∧ some k ≠ vk.ownBlock) (fun _ => False) rfl rfl HV10.out.send (Kd.R_reads' HR2.out).2.2 (fun _ _ h => h) (fun _ h => h.elim) HFS.out (Below.refl _ _) (Nat.zero_le _) (by have := HS.out; have := HLR.out; omega) ?_
    intro v3 w11 hr3 _ hg3 hat3
    obtain ⟨A3, c3, hv3⟩ := Kd.R_slice hr3
    obtain ⟨L3, HL3⟩ : ∃ L, Aside0 ((c.send ++ Cn.old x c.sh).length = L) := ⟨_, ⟨rfl⟩⟩
    rw [HL3.out] at hv3
    subst hv3
    have HR3 := az hr3
    have HG3' := az hg3
    have HA3 := az (Cn.hat_of hat3)
    have HX3 := az (HV10.out.blk.grown hg3 (Kd.R_ne HV10.out.send HV10.out.blk.out (by decide)))
    clear hr3 hg3 hat3
    refine hK.out _ _ ?_
    clear hK K
    refine Rg.n1 ?_
    refine Rg.p1 15 (.some 51) ?_
    refine Rg.p1 16 (.some 52) ?_
    refine Rg.l1 17 none (fun K hK => ?_)
    refine Wk.store_step (by rfl) rfl 35 (.tmp 52) (.tmp 50) rfl p 4 (.slice A3 L3 c3) [.slice A3 L3 c3] rfl rfl rfl 61 _ HX3.out HS2.out (Nat.le_of_ble_eq_true rfl) rfl ?_
    intro w12 hX hO
    have HO12 := az hO
    have HV12 : Aside0 (Cn.Cv w12 ok ex p tb pp vk (.slice A3 L3 c3) { c with ex := x, st := 3, send := c.send ++ Cn.old x c.sh }) := ⟨HV10.out.sent HR3.out HG3'.out HA3.out hO hX rfl rfl rfl⟩
    clear hX hO
    refine hK.out _ _ ?_
    clear hK K
    refine Rg.d1 ?_
    refine NoPanic.normal ?_
    go_wp2_with fail
    go_end0
    refine ⟨rfl, ?_, ((HFW.out.1.trans (Cn.Fr.of_below HB2.out ok)).trans (Cn.Fr.of_grown HG3'.out HV10.out.okS)).trans (Cn.Fr.of_only HO12.out HV10.out.okp)⟩
    unfold Cn.oldway
    rw [HCK.out, if_neg (by rw [HN.out]; have := HNN.out; omega), HXE.out]
    exact ⟨pp, vk, _, HV12.out⟩
  ·have hneb : (er == 0) = false := by simpa using he
   go_wp2_with fail
   refine (close_.calls ⟨pp, vk, vs, HV6.out⟩).mono ?_
   rintro e w7 ⟨rfl, hc7, hf7⟩
   have HC7 := az hc7
   have HF7 := az ((Cn.Fr.of_below HBW.out ok).trans hf7)
   clear hc7 hf7
   go_wp2_with fail
   refine bodyPost_ret (results_none rfl _ _ _) rfl ?_
   refine ⟨rfl, ?_, HF7.out⟩
   unfold Cn.oldway
   rw [HCK.out, if_pos (Or.inl he)]
   exact HC7.out
 ·refine two_ (i := 7) (j := 11) (Ni := some 14) (Nj := some 4) #[true, true, true, true, true, true, true, true, false, false, false, false, false, false] #[true, true, true, true, true, true, true, false, false, false, false, true, false, false] rfl rfl rfl rfl (by kernel_rfl) (by decide) (by decide) (fun K hK => ?_) (fun K hK => ?_)
  ·refine call_ 86 #[.pointer (some ⟨tb, 0, none⟩), .string (strOfNums d)] (by rfl) rfl (by go_simp) ?_
   refine (HCH.out _ hHeld).mono ?_
   rintro e w7 ⟨rfl, hbn⟩
   refine ⟨_, rfl, ?_⟩
   have hbt : Below w1.heap.size w1 w7 := below_then hHeld hHeld.size hbn
   refine hK.out _ _ hbt (fun hHeld => ?_)
   clear hK K hbt hbn
   refine norm_ (a' := ?_) ?_ ?_
   rotate_left
   ·show Act.put _ (some 14) _ = _
    simp only [Act.put, List.setIfInBounds_toArray, List.set_cons_zero, List.set_cons_succ]
    rfl
   refine pure_ (i := 8) (N := (some 6)) (v := ?_) (a' := ?_) #[true, true, true, true, true, true, true, true, true, false, false, false, false, false] rfl rfl (by kernel_rfl) (fun _ _ _ h => h) (Or.inl ⟨by rfl, ?_⟩) ?_ ?_
   rotate_left
   ·intro w'
    go_simp
    first | done | with_reducible rfl
   rotate_left
   ·simp only [Act.put, List.setIfInBounds_toArray, List.set_cons_zero, List.set_cons_succ]
    rfl
   refine pure_ (i := 9) (N := (some 15)) (v := ?_) (a' := ?_) #[true, true, true, true, true, true, true, true, true, true, false, false, false, false] rfl rfl (by kernel_rfl) (fun _ _ _ h => h) (Or.inl ⟨by rfl, ?_⟩) ?_ ?_
   rotate_left
   ·intro w'
    go_simp
    first | done | with_reducible rfl
   rotate_left
   ·simp only [Act.put, List.setIfInBounds_toArray, List.set_cons_zero, List.set_cons_succ]
    rfl
   refine pure_ (i := 10) (N := (some 16)) (v := ?_) (a' := ?_) #[true, true, true, true, true, true, true, true, true, true, true, false, false, false] rfl rfl (by kernel_rfl) (fun _ _ _ h => h) (Or.inl ⟨by rfl, ?_⟩) ?_ ?_
   rotate_left
   ·intro w'
    go_simp
    first | done | with_reducible rfl
   rotate_left
   ·simp only [Act.put, List.setIfInBounds_toArray, List.set_cons_zero, List.set_cons_succ]
    rfl
   refine one_ (i := 11) (N := some 4) #[true, true, true, true, true, true, true, true, true, true, true, true, false, false] rfl rfl (by kernel_rfl) (by decide) (fun K hK => ?_)
   refine value_ (w1 := w7.alloc (.cells Ps.zt4.toArray 122)) (v := .pointer (some ⟨w7.heap.size, 0, none⟩)) (by rfl) rfl (by first | (go_simp; done) | (go_simp; rfl)) ?_
   have hoe : Wk.Blk (w7.alloc (.cells Ps.zt4.toArray 122)) w7.heap.size 122 Ps.zt4 := Wk.Blk.new w7 _ Ps.zt4
   have hbn : Below w7.heap.size w7 (w7.alloc (.cells Ps.zt4.toArray 122)) := below_alloc (Below.refl _ _) _
   have hbt : Below w1.heap.size w1 (w7.alloc (.cells Ps.zt4.toArray 122)) := below_then hHeld hHeld.size hbn
   generalize World.alloc w7 (.cells Ps.zt4.toArray 122) = w11_7 at *
   have hres : Below w1.heap.size w1 w11_7 ∧ w1.heap.size ≤ w7.heap.size ∧ Wk.Blk w11_7 w7.heap.size 122 Ps.zt4 := ⟨hbt, hHeld.size, hoe⟩
   have HRES := az hres
   refine hK.out _ _ hbt (fun hHeld => ?_)
   clear hK K hbt hbn hoe hres
   refine norm_ (a' := ?_) ?_ ?_
   rotate_left
   ·show Act.put _ (some 4) _ = _
    simp only [Act.put, List.setIfInBounds_toArray, List.set_cons_zero, List.set_cons_succ]
    rfl
   refine norm_ (a' := putAll _ ((fun b4 : Nat => ([(14, (.tuple #[.agg #[.int .u32 ti, .int .u32 se, .bool ro, .int .u64 sz], .int .u16 er])), (6, (.tuple #[.agg #[.int .u32 ti, .int .u32 se, .bool ro, .int .u64 sz], .int .u16 er])), (15, (.agg #[.int .u32 ti, .int .u32 se, .bool ro, .int .u64 sz])), (16, .int .u16 er), (4, .pointer (some ⟨b4, 0, none⟩))] : List (Tmp × Value))) w7.heap.size)) ?_ (hJ w7.heap.size w11_7 HRES.out)
   simp only [putAll, Act.put, List.setIfInBounds_toArray, List.set_cons_zero, List.set_cons_succ]
  ·refine value_ (w1 := wd.alloc (.cells Ps.zt4.toArray 122)) (v := .pointer (some ⟨wd.heap.size, 0, none⟩)) (by rfl) rfl (by first | (go_simp; done) | (go_simp; rfl)) ?_
   have hoe : Wk.Blk (wd.alloc (.cells Ps.zt4.toArray 122)) wd.heap.size 122 Ps.zt4 := Wk.Blk.new wd _ Ps.zt4
   have hbn : Below wd.heap.size wd (wd.alloc (.cells Ps.zt4.toArray 122)) := below_alloc (Below.refl _ _) _
   have hbt : Below w1.heap.size w1 (wd.alloc (.cells Ps.zt4.toArray 122)) := below_then hHeld hHeld.size hbn
   generalize World.alloc wd (.cells Ps.zt4.toArray 122) = w11 at *
   have HOE := az (And.intro (show w1.heap.size ≤ wd.heap.size from HWD.out) hoe)
   refine hK.out _ _ hbt (fun hHeld => ?_)
   clear hK K hbt hbn hoe
   refine norm_ (a' := ?_) ?_ ?_
   rotate_left
   ·show Act.put _ (some 4) _ = _
    simp only [Act.put, List.setIfInBounds_toArray, List.set_cons_zero, List.set_cons_succ]
    rfl
   refine one_ (i := 7) (N := some 14) #[true, true, true, true, true, true, true, true, false, false, false, true, false, false] rfl rfl (by kernel_rfl) (by decide) (fun K hK => ?_)
   refine call_ 86 #[.pointer (some ⟨tb, 0, none⟩), .string (strOfNums d)] (by rfl) rfl (by go_simp) ?_
   refine (HCH.out _ hHeld).mono ?_
   rintro e w7_11 ⟨rfl, hbn⟩
   refine ⟨_, rfl, ?_⟩
   have hbt : Below w1.heap.size w1 w7_11 := below_then hHeld hHeld.size hbn
   have HRES := az (show Below w1.heap.size w1 w7_11 ∧ w1.heap.size ≤ wd.heap.size ∧ Wk.Blk w7_11 wd.heap.size 122 Ps.zt4 from ⟨hbt, HOE.out.1, HOE.out.2.below_ hbn⟩)
   refine hK.out _ _ hbt (fun hHeld => ?_)
   clear hK K hbt hbn
   refine norm_ (a' := ?_) ?_ ?_
   rotate_left
   ·show Act.put _ (some 14) _ = _
    simp only [Act.put, List.setIfInBounds_toArray, List.set_cons_zero, List.set_cons_succ]
    rfl
   refine pure_ (i := 8) (N := (some 6)) (v := ?_) (a' := ?_) #[true, true, true, true, true, true, true, true, true, false, false, true, false, false] rfl rfl (by kernel_rfl) (fun _ _ _ h => h) (Or.inl ⟨by rfl, ?_⟩) ?_ ?_
   rotate_left
   ·intro w'
    go_simp
    first | done | with_reducible rfl
   rotate_left
   ·simp only [Act.put, List.setIfInBounds_toArray, List.set_cons_zero, List.set_cons_succ]
    rfl
   refine pure_ (i := 9) (N := (some 15)) (v := ?_) (a' := ?_) #[true, true, true, true, true, true, true, true, true, true, false, true, false, false] rfl rfl (by kernel_rfl) (fun _ _ _ h => h) (Or.inl ⟨by rfl, ?_⟩) ?_ ?_
   rotate_left
   ·intro w'
    go_simp
    first | done | with_reducible rfl
   rotate_left
   ·simp only [Act.put, List.setIfInBounds_toArray, List.set_cons_zero, List.set_cons_succ]
    rfl
   refine pure_ (i := 10) (N := (some 16)) (v := ?_) (a' := ?_) #[true, true, true, true, true, true, true, true, true, true, true, true, false, false] rfl rfl (by kernel_rfl) (fun _ _ _ h => h) (Or.inl ⟨by rfl, ?_⟩) ?_ ?_
   rotate_left
   ·intro w'
    go_simp
    first | done | with_reducible rfl
   rotate_left
   ·simp only [Act.put, List.setIfInBounds_toArray, List.set_cons_zero, List.set_cons_succ]
    rfl
   refine norm_ (a' := putAll _ ((fun b4 : Nat => ([(14, (.tuple #[.agg #[.int .u32 ti, .int .u32 se, .bool ro, .int .u64 sz], .int .u16 er])), (6, (.tuple #[.agg #[.int .u32 ti, .int .u32 se, .bool ro, .int .u64 sz], .int .u16 er])), (15, (.agg #[.int .u32 ti, .int .u32 se, .bool ro, .int .u64 sz])), (16, .int .u16 er), (4, .pointer (some ⟨b4, 0, none⟩))] : List (Tmp × Value))) wd.heap.size)) ?_ (hJ wd.heap.size w7_11 HRES.out)
   simp only [putAll, Act.put, List.setIfInBounds_toArray, List.set_cons_zero, List.set_cons_succ]
namespace Cn
theorem sizeOp : (Tryz.prog.info? 103).map (·.size) = some 2 := by kernel_rfl
theorem Blk_frame {W W' : World} {ok : Nat → Prop} {g : Nat} {t : TypeId} {cs : List Value} (h : Wk.Blk W g t cs) (hf : Fr W W' ok) (hg : ¬ ok g) : Wk.Blk W' g t cs := ⟨(hf.block g h.lt hg).trans h.out⟩
theorem R_frame {α : Type} {d : Kd α} {e : Nat} {W W' : World} {base : Nat} {ok ok' : Nat → Prop} {v : Value} {xs : List α} (h : d.R e W base ok v xs) (hf : Fr W W' ok') (hd : ∀ k, ok k → ¬ ok' k) : d.R e W' base ok v xs := Kd.R_step h (fun k ho hk => hf.block k hk (hd k ho))
theorem refused_range (e : Int) : 0 ≤ refused e ∧ refused e < 4294967296 := by
  unfold refused
  split
  · decide
  · split
    · decide
    · decide
theorem rep_len (o k : Int) (d : List Int) : (rep o k d).length ≤ 8000 + d.length := by
  have := packs_len4 [8, 4, 4, 4] [1100100111001001, o, k, (d.length : Int)] (by simp)
  unfold rep
  rw [List.length_append]
  omega
theorem ak_size (d : List Int) : (Gr.ak d).1.size ≤ d.length := by
  unfold Gr.ak
  repeat' split
  all_goals first
    | exact Nat.zero_le _
    | (rw [str_size, List.length_take, List.length_drop]; omega)
theorem pairs_len : ∀ l : List Int, (Gr.pairs l).length ≤ l.length
  | [] => Nat.le_refl _
  | [_] => Nat.zero_le _
  | a :: b :: l => by
    rw [Gr.pairs, List.length_cons, List.length_cons, List.length_cons]
    have := pairs_len l
    omega
theorem ak_wants (d : List Int) : (Gr.ak d).2.1.length ≤ d.length := by
  unfold Gr.ak
  repeat' split
  all_goals first
    | exact Nat.zero_le _
    | (refine Nat.le_trans (pairs_len _) ?_; rw [List.length_drop, List.length_drop, List.length_drop]; omega)
theorem R_own {e : Nat} {k : IntKind} {W : World} {base : Nat} {ok : Nat → Prop} {v : Value} {xs : List Int} (h : Kd.R (Kd.int k) e W base ok v xs) : Kd.R (Kd.int k) e W base (fun j => v.ownBlock = some j) v xs := ⟨fun _ hk => hk, h.2.imp_ (fun _ _ hp => hp)⟩
theorem info_len (x : Ex) : (info x).length ≤ 8000 := packs_len4 _ _ (by simp)
theorem blocks_len (b : Int) : (blocks b).length ≤ 8000 := packs_len4 _ _ (by simp)
theorem say_len (c : St) (o k : Int) (d : List Int) : (say c o k d).send.length ≤ c.send.length + 8000 + d.length := by
  have := rep_len o k d
  unfold say
  simp only [List.length_append]
  omega
end Cn
theorem askedc_.calls {W : World} {ok ex : Nat → Prop} {p tb bs : Nat} {c : Cn.St} {l : List Ps.Tn} (h : Cn.Cn W ok ex p tb c) (hf : ∀ k, W.heap.size ≤ k → ok k) (hb : 0 ≤ c.blk ∧ c.blk ≤ 65535) (hK : Sh.Ks W) (hT : Ps.Tb W bs tb l) (hW : ∀ x ∈ l, Ps.TnWf x) {A : Option Addr} {n cd : Nat} {k : Int} {d : List Int} (hk : 0 ≤ k ∧ k < 4294967296) (hd : Kd.C (Kd.int .u8) W A d.length d) (hn : d.length = n) (hc : n ≤ cd) (hl : n ≤ 100000) (hby : Sh.Bytes d) (hs : c.send.length ≤ 9000000000000) :
  Calls Tryz.prog 73 #[.pointer (some ⟨p, 0, none⟩), .agg #[.int .u32 k, .slice A n cd]] W fun e w' => e = .returned (.tuple #[]) ∧ Cn.Cn w' ok ex p tb (Cn.asked l c k d) ∧ Cn.Fr W w' ok := by
 have HC0 := az h.bound
 have HF := az hf
 have HBK := az hb
 have HK := az hK
 have HT := az hT
 have HW := az hW
 have HKK := az hk
 have HD := az hd
 have HN := az hn
 have HL := az (And.intro hc hl)
 have HBY := az hby
 have HS := az hs
 have HS1 := az Cn.size1
 have HSO := az Cn.sizeOp
 have HSK := az Ps.sizeTk
 have HSE := az Cn.sizeEx
 clear h hf hb hK hT hW hk hd hn hc hl hby hs
 have HB1 : Aside0 (Below W.heap.size W (W.alloc (.cells #[.int .u32 k, .slice A n cd] 103))) := ⟨below_alloc (Below.refl _ _) _⟩
 have HX1 : Aside0 (Wk.Blk (W.alloc (.cells #[.int .u32 k, .slice A n cd] 103)) W.heap.size 103 [.int .u32 k, .slice A n cd]) := ⟨Wk.Blk.new W _ [.int .u32 k, .slice A n cd]⟩
 obtain ⟨s, ws, e, HAK⟩ : ∃ s ws e, Aside0 (Gr.ak d = (s, ws, e)) := ⟨_, _, _, ⟨rfl⟩⟩
 go_enter Tryz.func73, Tryz.ntmps73
 have k1 := HX1.out.at_ 1 rfl
 go_wp2_with fail
 clear k1
 generalize W.alloc (.cells #[.int .u32 k, .slice A n cd] 103) = w1 at *
 obtain ⟨g3, HG3⟩ : ∃ g, Aside0 (W.heap.size = g) := ⟨_, ⟨rfl⟩⟩
 rw [HG3.out] at HX1 ⊢
 refine (Cn.asked_ (Kd.C_below HD.out HB1.out) HN.out HL.out.1 HL.out.2 HBY.out HAK.out).mono ?_
 rintro e' w2 ⟨A5, c5, rfl, hR5, hb2⟩
 obtain ⟨n5, HN5⟩ : ∃ m, Aside0 (ws.length = m) := ⟨_, ⟨rfl⟩⟩
 rw [HN5.out] at hR5 ⊢
 have HB3 := az (below_then (below_then HB1.out HB1.out.size hb2) (below_then HB1.out HB1.out.size hb2).size (below_alloc (Below.refl w2.heap.size w2) (.cells #[.int .u32 0, .int .u32 0, .bool false, .int .u64 0] 122)))
 have HX3 := az ((HX1.out.below_ hb2).alloc (.cells #[.int .u32 0, .int .u32 0, .bool false, .int .u64 0] 122))
 have HY3 : Aside0 (Wk.Blk (w2.alloc (.cells #[.int .u32 0, .int .u32 0, .bool false, .int .u64 0] 122)) w2.heap.size 122 Ps.zt4) := ⟨Wk.Blk.new w2 _ Ps.zt4⟩
 have HR3 : Aside0 (Kd.R (Kd.int .u16) 44 (w2.alloc (.cells #[.int .u32 0, .int .u32 0, .bool false, .int .u64 0] 122)) w1.heap.size (fun _ => True) (.slice A5 n5 c5) ws) := ⟨Kd.R_below hR5 (below_alloc (Below.refl _ _) _)⟩
 have HG7 : Aside0 (g3 < w2.heap.size ∧ w1.heap.size ≤ w2.heap.size ∧ g3 < w1.heap.size) := ⟨(HX1.out.below_ hb2).lt, hb2.size, HX1.out.lt⟩
 have HR5 : Aside0 (Kd.R (Kd.int .u16) 44 w2 w1.heap.size (fun _ => True) (.slice A5 n5 c5) ws) := ⟨hR5⟩
 clear hR5 hb2
 by_cases he : e = 0
 ·subst he
  have k1 := ((HC0.out.below HB3.out).choose_spec.choose_spec.choose_spec).blk.at_ 1 rfl
  go_wp2_with fail
  clear k1
  generalize w2.alloc (.cells #[.int .u32 0, .int .u32 0, .bool false, .int .u64 0] 122) = w3 at *
  obtain ⟨b7, HB7⟩ : ∃ g, Aside0 (w2.heap.size = g) := ⟨_, ⟨rfl⟩⟩
  rw [HB7.out] at HY3 HG7 ⊢
  have HSS : Aside0 (s.size ≤ 100000) := ⟨by have := Cn.ak_size d; rw [HAK.out, HN.out] at this; change s.size ≤ n at this; have := HL.out.2; omega⟩
  have HWL : Aside0 (n5 ≤ 100000) := ⟨by have := Cn.ak_wants d; rw [HAK.out, HN.out] at this; change ws.length ≤ n at this; have := HL.out.2; have := HN5.out; omega⟩
  refine (check_.calls tb bs l s w3 (HK.out.below HB3.out) (HT.out.below HB3.out) (by have := HSS.out; omega) HW.out).mono ?_
  rintro e' wc ⟨rfl, hbc⟩
  obtain ⟨ti, se, ro, sz, f, HCK⟩ : ∃ ti se ro sz f, Aside0 (Ps.check l s = ((ti, se, ro, sz), f)) := ⟨_, _, _, _, _, ⟨rfl⟩⟩
  have HTK : Aside0 (Ps.TkWf (ti, se, ro, sz)) := ⟨by have := Cn.check_wf l s; rw [HCK.out] at this; exact this⟩
  rw [HCK.out]
  have HBc := az (below_then HB3.out HB3.out.size hbc)
  have HXc := az (HX3.out.below_ hbc)
  have HYc := az (HY3.out.below_ hbc)
  have HRc := az (Kd.R_below HR3.out hbc)
  have HW1 : Aside0 (W.heap.size ≤ w1.heap.size) := ⟨by have := HG7.out; have := HG3.out; omega⟩
  have HGW : Aside0 (W.heap.size ≤ b7 ∧ g3 ≠ b7) := ⟨by have := HG7.out; have := HG3.out; omega, by have := HG7.out; omega⟩
  clear hbc HX3 HY3 HR3 HR5 HB7 HX1 HB1 HG7
  by_cases hf0 : f = 0
  ·subst hf0
   go_wp2_with (first
    | (refine Wk.store_all rfl rfl 122 (.tmp 7) (.tmp 25) rfl b7 (Ps.tkc (ti, se, ro, sz)) rfl rfl 122 _ HYc.out HSK.out rfl rfl ?_; intro w4 hX hO; have HY4 := az hX; have HX4 := az (HXc.out.only hO HGW.out.2); have HBW := az (Wk.Only.below HBc.out hO HGW.out.1); have HR4 := az (Wk.R_only HRc.out HYc.out (by decide) hO); clear hX hO)
    | refine Wk.load rfl 122 (.tmp 7) rfl (.agg #[.int .u32 ti, .int .u32 se, .bool ro, .int .u64 sz]) (.pointer (some ⟨b7, 0, none⟩)) rfl (Wk.run_load_blk (P := Tryz.prog) 122 b7 0 (Ps.tkc (ti, se, ro, sz)) _ HY4.out rfl Tryz.underlying122 rfl HSK.out) ?_)
   have HCW := az (HC0.out.below HBW.out)
   refine (served_.calls HCW.out HBK.out (ti, se, ro, sz) HTK.out).mono ?_
   rintro e' w5 ⟨rfl, hb5⟩
   obtain ⟨x, HXE⟩ : ∃ x, Aside0 (Cn.served c.blk (ti, se, ro, sz) = x) := ⟨_, ⟨rfl⟩⟩
   rw [HXE.out]
   have HB5 := az (below_then HBW.out HBW.out.size hb5)
   have HX5 := az (HX4.out.below_ hb5)
   have HR5 := az (Kd.R_below HR4.out hb5)
   clear hb5 HBW HX4 HR4 HCW HY4 HBc HXc HYc HRc
   go_wp2_with (refine Wk.store_all rfl rfl 47 (.tmp 8) (.tmp 36) rfl w5.heap.size (Cn.exc x) rfl rfl 47 (Cn.exc Cn.ex0) (Wk.Blk.new w5 47 (Cn.exc Cn.ex0)) HSE.out rfl rfl ?_; intro w6 hX hO; have HF6 := az (Wk.Only.fresh HB5.out HB5.out.size hO); have HZ6 := az hX; clear hX hO)
   have HX6 := az (HX5.out.below_ HF6.out.2.2)
   have HR6 := az (Cn.R_own (Kd.R_below HR5.out HF6.out.2.2))
   have HB6 := az HF6.out.2.1
   obtain ⟨b8, HB8⟩ : ∃ g, Aside0 (w5.heap.size = g) := ⟨_, ⟨rfl⟩⟩
   rw [HB8.out] at HZ6 ⊢
   have HNE : Aside0 (W.heap.size ≤ g3 ∧ g3 < w6.heap.size ∧ W.heap.size ≤ b8 ∧ b8 < w6.heap.size ∧ ∀ j, (Value.slice A5 n5 c5).ownBlock = some j → W.heap.size ≤ j ∧ j < w6.heap.size) := ⟨by
    refine ⟨by rw [HG3.out]; exact Nat.le_refl _, HX6.out.lt, by rw [← HB8.out]; exact HB5.out.size, HZ6.out.lt, fun j hj => ?_⟩
    have := (Kd.R_bound HR6.out).1 j hj
    exact ⟨Nat.le_trans HW1.out this.2.1, this.2.2.1⟩⟩
   obtain ⟨okL, HOK⟩ : ∃ okL : Nat → Prop, Aside0 (∀ j, okL j ↔ (ok j ∧ j ≠ g3 ∧ j ≠ b8 ∧ (Value.slice A5 n5 c5).ownBlock ≠ some j)) := ⟨fun j => ok j ∧ j ≠ g3 ∧ j ≠ b8 ∧ (Value.slice A5 n5 c5).ownBlock ≠ some j, ⟨fun _ => Iff.rfl⟩⟩
   have HOL : Aside0 (∀ j, okL j → ok j) := ⟨fun j hj => ((HOK.out j).1 hj).1⟩
   have HFR : Aside0 (∀ j, w6.heap.size ≤ j → okL j) := ⟨fun j hj => (HOK.out j).2 ⟨HF.out j (Nat.le_trans HB6.out.size hj), by have := HNE.out.2.1; omega, by have := HNE.out.2.2.2.1; omega, fun he => by have := (HNE.out.2.2.2.2 j he).2; omega⟩⟩
   have HC6 : Aside0 (Cn.Cn w6 okL ex p tb c) := ⟨(HC0.out.below HB6.out).mono (fun j hj => (HOK.out j).2 ⟨hj.1, by have := HNE.out.1; have := hj.2; omega, by have := HNE.out.2.2.1; have := hj.2; omega, fun he => by have := (HNE.out.2.2.2.2 j he).1; have := hj.2; omega⟩) (fun j hj => .inr hj.1)⟩
   have HNG : Aside0 (¬ okL g3 ∧ ¬ okL b8 ∧ ∀ j, (Value.slice A5 n5 c5).ownBlock = some j → ¬ okL j) := ⟨fun hh => ((HOK.out _).1 hh).2.1 rfl, fun hh => ((HOK.out _).1 hh).2.2.1 rfl, fun j hj hh => ((HOK.out _).1 hh).2.2.2 hj⟩
   clear HX5 HR5 HB5 HF6 HB8 HOK HNE
   refine wp_region_noPanic ?_
   refine Rg.s1 5 (fun w' => Below w6.heap.size w6 w') [4] (Below.refl _ _).drew #[false, false, false, false, false] (fun hHeld => ?_)
   refine Rg.p1 0 (.some 37) ?_
   refine Rg.t1 1 (.some 38) hHeld ?_ (hy := by intro w' hS'; (have hl := Wk.run_load_blk (P := Tryz.prog) 103 g3 0 [.int .u32 k, .slice A n cd] _ (HX6.out.below_ hS') rfl Tryz.underlying103 rfl HSO.out; refine (Wk.exec_load 103 (.tmp 3) rfl _ _ rfl hl).trans ?_); first | done | with_reducible rfl)
   refine Rg.t1 2 (.some 39) hHeld ?_ (hy := by intro w' hS'; (have hl := Wk.run_load_blk (P := Tryz.prog) 47 b8 0 (Cn.exc x) _ (HZ6.out.below_ hS') rfl Tryz.underlying47 rfl HSE.out; refine (Wk.exec_load 47 (.tmp 8) rfl _ _ rfl hl).trans ?_); first | done | with_reducible rfl)
   refine Rg.o1 3 (.some 40) (fun K hK => ?_)
   refine call_ 91 #[.agg (Cn.exc x).toArray] (by rfl) rfl (by go_simp) ?_
   refine (Cn.info_ _ x).mono ?_
   rintro e7 w7 ⟨A9, c9, rfl, hR7, hb7⟩
   have HR7 := az hR7
   have HB7 := az (below_then hHeld hHeld.size hb7)
   clear hR7 hb7
   refine ⟨_, rfl, ?_⟩
   refine hK.out _ _ HB7.out (fun hHeld => ?_)
   clear hK K
   refine Rg.n1 ?_
   refine Rg.l1 4 (.some 41) (fun K hK => ?_)
   refine call_ 71 #[.pointer (some ⟨p, 0, none⟩), .agg #[.int .u32 k, .slice A n cd], .int .u32 3, .slice A9 (Cn.info x).length c9] (by rfl) rfl (by go_simp) ?_
   refine (reply_.calls (HC6.out.below HB7.out) (fun j hj => HFR.out j (Nat.le_trans HB7.out.size hj)) HKK.out (by decide) (Kd.R_reads' HR7.out).2.2 rfl (Kd.R_reads' HR7.out).2.1 (by have := Cn.info_len x; omega) (by have := HS.out; omega)).mono ?_
   rintro e8 w8 ⟨rfl, hc8, hf8⟩
   have HC8 := az hc8
   have HX8 := az (Cn.Blk_frame (HX6.out.below_ HB7.out) hf8 HNG.out.1)
   have HZ8 := az (Cn.Blk_frame (HZ6.out.below_ HB7.out) hf8 HNG.out.2.1)
   have HR8 := az (Cn.R_frame (Kd.R_below HR6.out HB7.out) hf8 HNG.out.2.2)
   have HF8 := az (((Cn.Fr.of_below HB6.out ok).trans (Cn.Fr.of_below HB7.out ok)).trans (hf8.mono HOL.out))
   have HS8 : Aside0 (w6.heap.size ≤ w8.heap.size) := ⟨Nat.le_trans HB7.out.size hf8.size⟩
   clear hc8 hf8
   refine ⟨_, rfl, ?_⟩
   refine hK.out _ _ ?_
   clear hK K
   refine Rg.n1 ?_
   refine Rg.d1 ?_
   refine NoPanic.normal ?_
   clear HX6 HZ6 HR6 HC6 HB6
   obtain ⟨c1, HC1E⟩ : ∃ c1, Aside0 (Cn.say c k 3 (Cn.info x) = c1) := ⟨_, ⟨rfl⟩⟩
   have HL1 : Aside0 (c1.send.length ≤ 9000000100000 ∧ c1.blk = c.blk) := ⟨by
    rw [← HC1E.out]
    have h1 := Cn.say_len c k 3 (Cn.info x)
    have h2 := Cn.info_len x
    have h3 := HS.out
    exact ⟨by omega, rfl⟩⟩
   rw [HC1E.out] at HC8
   obtain ⟨wb, HWB⟩ : ∃ b, Aside0 (decide (3 ∈ ws) = b) := ⟨_, ⟨rfl⟩⟩
   go_wp2_with fail
   refine (Cn.cont16_ (Kd.R_reads' HR8.out).2.2 HN5.out (Kd.R_reads' HR8.out).2.1 (by have := HWL.out; omega) HWB.out).mono ?_
   rintro e9 w9 ⟨rfl, hb9⟩
   have HC9' := az (HC8.out.below hb9)
   have HX9' := az (HX8.out.below_ hb9)
   have HZ9' := az (HZ8.out.below_ hb9)
   have HF9' := az (HF8.out.trans (Cn.Fr.of_below hb9 ok))
   have HS9' : Aside0 (w6.heap.size ≤ w9.heap.size) := ⟨Nat.le_trans HS8.out hb9.size⟩
   clear hb9 HC8 HX8 HZ8 HF8 HS8 HR8
   cases wb with
   | true =>
    have k2 := (HC9'.out.choose_spec.choose_spec.choose_spec).blk.at_ 2 rfl
    rw [HL1.out.2] at k2
    go_wp2_with fail
    clear k2
    refine wp_region_noPanic ?_
    refine Rg.s1 8 (fun w' => Below w9.heap.size w9 w') [7] (Below.refl _ _).drew #[false, false, false, false, false, false, false, false] (fun hHeld => ?_)
    refine Rg.p1 0 (.some 44) ?_
    refine Rg.t1 1 (.some 45) hHeld ?_ (hy := by intro w' hS'; (have hl := Wk.run_load_blk (P := Tryz.prog) 103 g3 0 [.int .u32 k, .slice A n cd] _ (HX9'.out.below_ hS') rfl Tryz.underlying103 rfl HSO.out; refine (Wk.exec_load 103 (.tmp 3) rfl _ _ rfl hl).trans ?_); first | done | with_reducible rfl)
    refine Rg.p1 2 (.some 46) ?_
    refine Rg.p1 3 (.some 47) ?_
    refine Rg.p1 4 (.some 48) ?_
    refine Rg.t1 5 (.some 49) hHeld ?_ (hy := by intro w' hS'; (have k2 := ((HC9'.out.below hS').choose_spec.choose_spec.choose_spec).blk.at_ 2 rfl; rw [HL1.out.2] at k2; go_simp); first | done | with_reducible rfl)
    refine Rg.o1 6 (.some 50) (fun K hK => ?_)
    refine call_ 93 #[.int .i64 c.blk] (by rfl) rfl (by go_simp) ?_
    refine (Cn.blocks_ _ c.blk HBK.out.1 (by have := HBK.out.2; omega)).mono ?_
    rintro e7 w13 ⟨A9', c9', rfl, hR7, hb7⟩
    have HR13 := az hR7
    have HB13 := az (below_then hHeld hHeld.size hb7)
    clear hR7 hb7
    refine ⟨_, rfl, ?_⟩
    refine hK.out _ _ HB13.out (fun hHeld => ?_)
    clear hK K
    refine Rg.n1 ?_
    refine Rg.l1 7 (.some 51) (fun K hK => ?_)
    refine call_ 71 #[.pointer (some ⟨p, 0, none⟩), .agg #[.int .u32 k, .slice A n cd], .int .u32 3, .slice A9' (Cn.blocks c.blk).length c9'] (by rfl) rfl (by go_simp) ?_
    refine (reply_.calls (HC9'.out.below HB13.out) (fun j hj => HFR.out j (Nat.le_trans HS9'.out (Nat.le_trans HB13.out.size hj))) HKK.out (by decide) (Kd.R_reads' HR13.out).2.2 rfl (Kd.R_reads' HR13.out).2.1 (by have := Cn.blocks_len c.blk; omega) (by have := HL1.out.1; omega)).mono ?_
    rintro e8 w14 ⟨rfl, hc8, hf8⟩
    have HC9 := az hc8
    have HX9 := az (Cn.Blk_frame (HX9'.out.below_ HB13.out) hf8 HNG.out.1)
    have HZ9 := az (Cn.Blk_frame (HZ9'.out.below_ HB13.out) hf8 HNG.out.2.1)
    have HF9 := az ((HF9'.out.trans (Cn.Fr.of_below HB13.out ok)).trans (hf8.mono HOL.out))
    have HS9 : Aside0 (w6.heap.size ≤ w14.heap.size) := ⟨Nat.le_trans HS9'.out (Nat.le_trans HB13.out.size hf8.size)⟩
    clear hc8 hf8
    refine ⟨_, rfl, ?_⟩
    refine hK.out _ _ ?_
    clear hK K
    refine Rg.n1 ?_
    refine Rg.d1 ?_
    refine NoPanic.normal ?_
    have HL9 : Aside0 ((Cn.say c1 k 3 (Cn.blocks c.blk)).send.length ≤ 9000000200000) := ⟨by
     have h1 := Cn.say_len c1 k 3 (Cn.blocks c.blk)
     have h2 := Cn.blocks_len c.blk
     have h3 := HL1.out.1
     omega⟩
    clear HC9' HX9' HZ9' HF9' HS9'
    have hl11 := Wk.run_load_blk (P := Tryz.prog) 103 g3 0 [.int .u32 k, .slice A n cd] _ HX9.out rfl Tryz.underlying103 rfl HSO.out
    go_wp2_with (refine Wk.load rfl 103 (.tmp 3) rfl (.agg #[.int .u32 k, .slice A n cd]) (.pointer (some ⟨g3, 0, none⟩)) rfl hl11 ?_)
    clear hl11
    refine (reply_.calls HC9.out (fun j hj => HFR.out j (Nat.le_trans HS9.out hj)) HKK.out (by decide) (d := []) (Kd.C_nil _ _) rfl (Nat.le_refl _) (by decide) (by have := HL9.out; omega)).mono ?_
    rintro e10 w10 ⟨rfl, hc10, hf10⟩
    have HC10 := az hc10
    have HX10 := az (Cn.Blk_frame HX9.out hf10 HNG.out.1)
    have HZ10 := az (Cn.Blk_frame HZ9.out hf10 HNG.out.2.1)
    have HF10 := az (HF9.out.trans (hf10.mono HOL.out))
    have k0 := HX10.out.at_ 0 rfl
    clear hc10 hf10
    by_cases hk7 : k = 7
    ·have hkb : (k == 7) = true := by simpa using hk7
     have HK7 := az hk7
     clear hk7
     obtain ⟨pp, vk, vs, hv⟩ := HC10.out
     have HV10 := az hv
     clear hv
     go_wp2_with (first
      | refine Wk.load rfl 47 (.tmp 8) rfl (.agg (Cn.exc x).toArray) (.pointer (some ⟨b8, 0, none⟩)) rfl (Wk.run_load_blk (P := Tryz.prog) 47 b8 0 (Cn.exc x) _ HZ10.out rfl Tryz.underlying47 rfl HSE.out) ?_
      | (refine Wk.store rfl rfl 47 (.tmp 62) (.tmp 60) rfl p 6 (.agg (Cn.exc x).toArray) (Cn.exc x) rfl rfl (by simp [Value.cells]) 61 _ HV10.out.blk HSE.out (Nat.le_of_ble_eq_true rfl) rfl ?_; intro w11 hX hO; have HO11 := az hO; have HV11 : Aside0 (Cn.Cv w11 okL ex p tb pp vk vs { Cn.say (Cn.say c1 k 3 (Cn.blocks c.blk)) k 1 [] with ex := x }) := ⟨HV10.out.turn hO hX rfl rfl rfl⟩; clear hX hO)
      | (refine Wk.store rfl rfl 5 (.tmp 64) (.const (.int .u8 3)) rfl p 5 (.int .u8 3) [.int .u8 3] rfl rfl rfl 61 _ HV11.out.blk HS1.out (Nat.le_of_ble_eq_true rfl) rfl ?_; intro w12 hX hO; have HO12 := az hO; have HV12 : Aside0 (Cn.Cv w12 okL ex p tb pp vk vs { Cn.say (Cn.say c1 k 3 (Cn.blocks c.blk)) k 1 [] with ex := x, st := 3 }) := ⟨HV11.out.turn hO hX rfl rfl rfl⟩; clear hX hO))
     go_end0
     refine ⟨rfl, ?_, (HF10.out.trans (Cn.Fr.of_only HO11.out (HOL.out _ HV10.out.okp))).trans (Cn.Fr.of_only HO12.out (HOL.out _ HV10.out.okp))⟩
     unfold Cn.asked
     rw [HAK.out, if_neg (fun h => h rfl), HCK.out, if_neg (fun h => h rfl), HXE.out]
     simp only [HC1E.out]
     rw [(if_pos (of_decide_eq_true HWB.out)), if_pos HK7.out]
     exact ⟨pp, vk, vs, HV12.out.mono HOL.out (fun j hj => .inr hj)⟩
    ·have hkb : (k == 7) = false := by simpa using hk7
     go_wp2_with fail
     go_end0
     refine ⟨rfl, ?_, HF10.out⟩
     unfold Cn.asked
     rw [HAK.out, if_neg (fun h => h rfl), HCK.out, if_neg (fun h => h rfl), HXE.out]
     simp only [HC1E.out]
     rw [(if_pos (of_decide_eq_true HWB.out)), if_neg hk7]
     exact HC10.out.mono HOL.out (fun j hj => .inr hj)
   | false =>
    have HC9 := HC9'
    have HX9 := HX9'
    have HZ9 := HZ9'
    have HF9 := HF9'
    have HS9 := HS9'
    have HL9 : Aside0 (c1.send.length ≤ 9000000200000) := ⟨by have := HL1.out.1; omega⟩
    clear HC9' HX9' HZ9' HF9' HS9'
    have hl11 := Wk.run_load_blk (P := Tryz.prog) 103 g3 0 [.int .u32 k, .slice A n cd] _ HX9.out rfl Tryz.underlying103 rfl HSO.out
    go_wp2_with (refine Wk.load rfl 103 (.tmp 3) rfl (.agg #[.int .u32 k, .slice A n cd]) (.pointer (some ⟨g3, 0, none⟩)) rfl hl11 ?_)
    clear hl11
    refine (reply_.calls HC9.out (fun j hj => HFR.out j (Nat.le_trans HS9.out hj)) HKK.out (by decide) (d := []) (Kd.C_nil _ _) rfl (Nat.le_refl _) (by decide) (by have := HL9.out; omega)).mono ?_
    rintro e10 w10 ⟨rfl, hc10, hf10⟩
    have HC10 := az hc10
    have HX10 := az (Cn.Blk_frame HX9.out hf10 HNG.out.1)
    have HZ10 := az (Cn.Blk_frame HZ9.out hf10 HNG.out.2.1)
    have HF10 := az (HF9.out.trans (hf10.mono HOL.out))
    have k0 := HX10.out.at_ 0 rfl
    clear hc10 hf10
    by_cases hk7 : k = 7
    ·have hkb : (k == 7) = true := by simpa using hk7
     have HK7 := az hk7
     clear hk7
     obtain ⟨pp, vk, vs, hv⟩ := HC10.out
     have HV10 := az hv
     clear hv
     go_wp2_with (first
      | refine Wk.load rfl 47 (.tmp 8) rfl (.agg (Cn.exc x).toArray) (.pointer (some ⟨b8, 0, none⟩)) rfl (Wk.run_load_blk (P := Tryz.prog) 47 b8 0 (Cn.exc x) _ HZ10.out rfl Tryz.underlying47 rfl HSE.out) ?_
      | (refine Wk.store rfl rfl 47 (.tmp 62) (.tmp 60) rfl p 6 (.agg (Cn.exc x).toArray) (Cn.exc x) rfl rfl (by simp [Value.cells]) 61 _ HV10.out.blk HSE.out (Nat.le_of_ble_eq_true rfl) rfl ?_; intro w11 hX hO; have HO11 := az hO; have HV11 : Aside0 (Cn.Cv w11 okL ex p tb pp vk vs { Cn.say c1 k 1 [] with ex := x }) := ⟨HV10.out.turn hO hX rfl rfl rfl⟩; clear hX hO)
      | (refine Wk.store rfl rfl 5 (.tmp 64) (.const (.int .u8 3)) rfl p 5 (.int .u8 3) [.int .u8 3] rfl rfl rfl 61 _ HV11.out.blk HS1.out (Nat.le_of_ble_eq_true rfl) rfl ?_; intro w12 hX hO; have HO12 := az hO; have HV12 : Aside0 (Cn.Cv w12 okL ex p tb pp vk vs { Cn.say c1 k 1 [] with ex := x, st := 3 }) := ⟨HV11.out.turn hO hX rfl rfl rfl⟩; clear hX hO))
     go_end0
     refine ⟨rfl, ?_, (HF10.out.trans (Cn.Fr.of_only HO11.out (HOL.out _ HV10.out.okp))).trans (Cn.Fr.of_only HO12.out (HOL.out _ HV10.out.okp))⟩
     unfold Cn.asked
     rw [HAK.out, if_neg (fun h => h rfl), HCK.out, if_neg (fun h => h rfl), HXE.out]
     simp only [HC1E.out]
     rw [(if_neg (of_decide_eq_false HWB.out)), if_pos HK7.out]
     exact ⟨pp, vk, vs, HV12.out.mono HOL.out (fun j hj => .inr hj)⟩
    ·have hkb : (k == 7) = false := by simpa using hk7
     go_wp2_with fail
     go_end0
     refine ⟨rfl, ?_, HF10.out⟩
     unfold Cn.asked
     rw [HAK.out, if_neg (fun h => h rfl), HCK.out, if_neg (fun h => h rfl), HXE.out]
     simp only [HC1E.out]
     rw [(if_neg (of_decide_eq_false HWB.out)), if_neg hk7]
     exact HC10.out.mono HOL.out (fun j hj => .inr hj)
  ·have hfb : (f == 0) = false := by simpa using hf0
   go_wp2_with (refine Wk.store_all rfl rfl 122 (.tmp 7) (.tmp 25) rfl b7 (Ps.tkc (ti, se, ro, sz)) rfl rfl 122 _ HYc.out HSK.out rfl rfl ?_; intro w4 hX hO; have HX4 := az (HXc.out.only hO HGW.out.2); have HBW := az (Wk.Only.below HBc.out hO HGW.out.1); clear hX hO)
   have HCW := az (HC0.out.below HBW.out)
   have HCL : Aside0 (Cn.Cn w4 (fun j => ok j ∧ j ≠ g3) ex p tb c) := ⟨HCW.out.mono (fun j hj => ⟨hj.1, by have := hj.2; have := HG3.out; omega⟩) (fun j hj => .inr hj.1)⟩
   have HFL : Aside0 (∀ j, w4.heap.size ≤ j → ok j ∧ j ≠ g3) := ⟨fun j hj => ⟨HF.out j (Nat.le_trans HBW.out.size hj), by have := HX4.out.lt; omega⟩⟩
   refine wp_region_noPanic ?_
   refine Rg.s1 5 (fun w' => Below w4.heap.size w4 w') [4] (Below.refl _ _).drew #[false, false, false, false, false] (fun hHeld => ?_)
   refine Rg.p1 0 (.some 29) ?_
   refine Rg.t1 1 (.some 30) hHeld ?_ (hy := by intro w' hS'; (have hl := Wk.run_load_blk (P := Tryz.prog) 103 g3 0 [.int .u32 k, .slice A n cd] _ (HX4.out.below_ hS') rfl Tryz.underlying103 rfl HSO.out; refine (Wk.exec_load 103 (.tmp 3) rfl _ _ rfl hl).trans ?_); first | done | with_reducible rfl)
   refine Rg.p1 2 (.some 31) ?_
   refine Rg.o1 3 (.some 32) (fun K hK => ?_)
   refine call_ 90 #[.int .u16 f] (by rfl) rfl (by go_simp) ?_
   refine (Cn.refused_ _ f).mono ?_
   rintro e5 w5 ⟨rfl, hb5⟩
   have HB5 := az (below_then hHeld hHeld.size hb5)
   clear hb5
   refine ⟨_, rfl, ?_⟩
   refine hK.out _ _ HB5.out (fun hHeld => ?_)
   clear hK K
   refine Rg.n1 ?_
   refine Rg.l1 4 (.some 33) (fun K hK => ?_)
   refine call_ 71 #[.pointer (some ⟨p, 0, none⟩), .agg #[.int .u32 k, .slice A n cd], .int .u32 (Cn.refused f), .slice none 0 0] (by rfl) rfl (by go_simp) ?_
   refine (reply_.calls (HCL.out.below HB5.out) (fun j hj => HFL.out j (Nat.le_trans HB5.out.size hj)) HKK.out (Cn.refused_range f) (d := []) (Kd.C_nil _ _) rfl (Nat.le_refl _) (by decide) (by have := HS.out; omega)).mono ?_
   rintro e6 w6 ⟨rfl, hc6, hf6⟩
   have HC6 := az (hc6.mono (fun j hj => hj.1) (fun j hj => .inr hj))
   have HF6 := az (((Cn.Fr.of_below HBW.out ok).trans (Cn.Fr.of_below HB5.out ok)).trans (hf6.mono (fun j hj => hj.1)))
   clear hc6 hf6
   refine ⟨_, rfl, ?_⟩
   refine hK.out _ _ ?_
   clear hK K
   refine Rg.n1 ?_
   refine Rg.d1 ?_
   refine NoPanic.normal ?_
   go_wp2_with fail
   refine bodyPost_ret (results_none rfl _ _ _) rfl ?_
   refine ⟨rfl, ?_, HF6.out⟩
   unfold Cn.asked
   rw [HAK.out]
   rw [if_neg (fun h => h rfl), HCK.out, if_pos hf0]
   exact HC6.out
 ·have heb : (e == 0) = false := by simpa using he
  go_wp2_with fail
  generalize w2.alloc (.cells #[.int .u32 0, .int .u32 0, .bool false, .int .u64 0] 122) = w4 at *
  have HBW := HB3
  have HX4 := HX3
  have HCW := az (HC0.out.below HB3.out)
  have HCL : Aside0 (Cn.Cn w4 (fun j => ok j ∧ j ≠ g3) ex p tb c) := ⟨HCW.out.mono (fun j hj => ⟨hj.1, by have := hj.2; have := HG3.out; omega⟩) (fun j hj => .inr hj.1)⟩
  have HFL : Aside0 (∀ j, w4.heap.size ≤ j → ok j ∧ j ≠ g3) := ⟨fun j hj => ⟨HF.out j (Nat.le_trans HBW.out.size hj), by have := HX4.out.lt; omega⟩⟩
  refine wp_region_noPanic ?_
  refine Rg.s1 5 (fun w' => Below w4.heap.size w4 w') [4] (Below.refl _ _).drew #[false, false, false, false, false] (fun hHeld => ?_)
  refine Rg.p1 0 (.some 29) ?_
  refine Rg.t1 1 (.some 30) hHeld ?_ (hy := by intro w' hS'; (have hl := Wk.run_load_blk (P := Tryz.prog) 103 g3 0 [.int .u32 k, .slice A n cd] _ (HX4.out.below_ hS') rfl Tryz.underlying103 rfl HSO.out; refine (Wk.exec_load 103 (.tmp 3) rfl _ _ rfl hl).trans ?_); first | done | with_reducible rfl)
  refine Rg.p1 2 (.some 31) ?_
  refine Rg.o1 3 (.some 32) (fun K hK => ?_)
  refine call_ 90 #[.int .u16 e] (by rfl) rfl (by go_simp) ?_
  refine (Cn.refused_ _ e).mono ?_
  rintro e5 w5 ⟨rfl, hb5⟩
  have HB5 := az (below_then hHeld hHeld.size hb5)
  clear hb5
  refine ⟨_, rfl, ?_⟩
  refine hK.out _ _ HB5.out (fun hHeld => ?_)
  clear hK K
  refine Rg.n1 ?_
  refine Rg.l1 4 (.some 33) (fun K hK => ?_)
  refine call_ 71 #[.pointer (some ⟨p, 0, none⟩), .agg #[.int .u32 k, .slice A n cd], .int .u32 (Cn.refused e), .slice none 0 0] (by rfl) rfl (by go_simp) ?_
  refine (reply_.calls (HCL.out.below HB5.out) (fun j hj => HFL.out j (Nat.le_trans HB5.out.size hj)) HKK.out (Cn.refused_range e) (d := []) (Kd.C_nil _ _) rfl (Nat.le_refl _) (by decide) (by have := HS.out; omega)).mono ?_
  rintro e6 w6 ⟨rfl, hc6, hf6⟩
  have HC6 := az (hc6.mono (fun j hj => hj.1) (fun j hj => .inr hj))
  have HF6 := az (((Cn.Fr.of_below HBW.out ok).trans (Cn.Fr.of_below HB5.out ok)).trans (hf6.mono (fun j hj => hj.1)))
  clear hc6 hf6
  refine ⟨_, rfl, ?_⟩
  refine hK.out _ _ ?_
  clear hK K
  refine Rg.n1 ?_
  refine Rg.d1 ?_
  refine NoPanic.normal ?_
  go_wp2_with fail
  refine bodyPost_ret (results_none rfl _ _ _) rfl ?_
  refine ⟨rfl, ?_, HF6.out⟩
  unfold Cn.asked
  rw [HAK.out]
  rw [if_pos he]
  exact HC6.out
end Go.Proofs.YtgljicdpcapgnaaGreatDoor
namespace Go.Proofs.YtgljicdpcapgnaaGreatDoor.Ps
open Go.RowKit Go.Proofs.YtgljicdpcapgnaaGreatDoor.PBase Go.Proofs.YtgljicdpcapgnaaGreatDoorW.PrintWords Go.Proofs.YtgljicdpcapgnaaGreatDoorW.PrintLast Go.Proofs.YtgljicdpcapgnaaGreatDoorW.PrintMore
theorem find_none {l : List Tn} {id : Int} : find l id = none ↔ ∀ x ∈ l, x.f0 ≠ id := by
  unfold find
  rw [List.find?_eq_none]
  constructor
  · intro h x hx he
    exact h x hx (by simpa using he)
  · intro h x hx he
    exact h x hx (by simpa using he)
def few (l : List Tn) : Bool := decide (l.length ≤ 70 ∧ ∀ x ∈ l, x.f1.length ≤ 200 ∧ x.f4.length ≤ 50)
theorem rdT (l : List Tn) (i : Nat) (hi : i < l.length) : PBase.rd_T74 l (i : Int) = l[i] := by
  unfold PBase.rd_T74
  rw [Int.toNat_natCast, List.getD_eq_getElem?_getD, List.getElem?_eq_getElem hi]
  rfl
theorem ten_l (l : List Tn) (hl : l.length ≤ 70) : ∀ (d i k : Nat), i + d = l.length → d < k → coamingref00_Tenants.l0 k l i = some (decide (∀ x ∈ l.drop i, x.f1.length ≤ 200 ∧ x.f4.length ≤ 50))
  | 0, i, k, hi, hk => by
    obtain ⟨k, rfl⟩ : ∃ m, k = m + 1 := ⟨k - 1, by omega⟩
    rw [coamingref00_Tenants.l0, if_neg (by omega), List.drop_of_length_le (by omega)]
    simp
  | d + 1, i, k, hi, hk => by
    obtain ⟨k, rfl⟩ : ∃ m, k = m + 1 := ⟨k - 1, by omega⟩
    have hlt : i < l.length := by omega
    have e1 : wrap64 ((i : Int) + 1) = ((i + 1 : Nat) : Int) := by unfold wrap64; omega
    rw [coamingref00_Tenants.l0, e1, rdT l i hlt, List.drop_eq_getElem_cons hlt]
    clear e1
    rw [if_pos (by omega), if_pos (by omega)]
    by_cases h1 : (l[i].f1.length : Int) > 200
    · rw [if_pos h1]
      congr 1
      exact (decide_eq_false (fun h => by have := (h _ List.mem_cons_self).1; omega)).symm
    · rw [if_neg h1]
      by_cases h2 : (l[i].f4.length : Int) > 50
      · rw [if_pos h2]
        congr 1
        exact (decide_eq_false (fun h => by have := (h _ List.mem_cons_self).2; omega)).symm
      · rw [if_neg h2, ten_l l hl d (i + 1) k (by omega) (by omega)]
        congr 1
        rw [decide_eq_decide]
        constructor
        · intro h x hx
          rcases List.mem_cons.1 hx with rfl | hx
          · exact ⟨by omega, by omega⟩
          · exact h x hx
        · exact fun h x hx => h x (List.mem_cons_of_mem _ hx)
theorem tenants_is (l : List Tn) (k : Nat) (hk : 100 ≤ k) : coamingref00_Tenants.f k l = some (few l) := by
  unfold coamingref00_Tenants.f few
  by_cases h : (l.length : Int) > 70
  · rw [if_pos h]
    congr 1
    exact (decide_eq_false (fun hh => by have := hh.1; omega)).symm
  · rw [if_neg h, show (0 : Int) = ((0 : Nat) : Int) from rfl, ten_l l (by omega) l.length 0 k (by omega) (by omega), List.drop_zero]
    congr 1
    rw [decide_eq_decide]
    exact ⟨fun hh => ⟨by omega, hh⟩, fun hh => hh.2⟩
theorem tenants_ {A : Option Addr} {n c : Nat} {l : List Tn} {w : World} (h : kTn.C w A l.length l) (hn : l.length = n) (hc : n ≤ c) {b : Bool} (hb : few l = b) :
    Calls Tryz.prog 23 #[.slice A n c] w fun e w' => e = .returned (.bool b) ∧ Below w.heap.size w w' := by
  subst hn; subst hb
  exact (coamingref00_Tenants.calls 100 A c l (few l) w h hc (tenants_is l 100 (Nat.le_refl _))).mono (fun _ _ ⟨a, h⟩ => ⟨a, by obtain ⟨m, hm⟩ := h.out; rw [hm]; exact pw_below_drewN (Below.refl _ _) m⟩)
theorem few_wf {l : List Tn} (h : few l = true) (hw : ∀ x ∈ l, TnIn x) : ∀ x ∈ l, TnWf x := fun x hx => by
  unfold few at h
  rw [decide_eq_true_eq] at h
  obtain ⟨h1, h2⟩ := h.2 x hx
  obtain ⟨a, b, _⟩ := hw x hx
  exact ⟨of32 a, by omega, by omega, bytes_of b.2⟩
theorem infoTn : (Tryz.prog.info? 74).map (fun i => (i.zero, i.size, i.bytes)) = some (some (.agg z5.toArray), 5, 72) := by kernel_rfl
theorem row_cells {W : World} {A : Option Addr} {n : Nat} {xs : List Tn} (h : kTn.C W A n xs) (hn : xs.length = n) (k : Nat) (hk : k < xs.length) : ∃ ad A0 c0 A1 c1, A = some ad ∧ xs[k].f1.length ≤ c0 ∧ xs[k].f4.length ≤ c1 ∧ Kd.C (Kd.int .u8) W A0 xs[k].f1.length xs[k].f1 ∧ Kd.C (Kd.int .u32) W A1 xs[k].f4.length xs[k].f4 ∧
    ∀ w', Below W.heap.size W w' → (Instr.loadAt 74 (.pointer (some (ad.add (k * 5))))).run Tryz.prog w' = .ok (.agg (tnc xs[k] A0 c0 A1 c1).toArray) w' ∧ w'.cell? (ad.add (k * 5)) = some (.int .u32 xs[k].f0) ∧ w'.cell? ⟨(ad.add (k * 5)).block, (ad.add (k * 5)).off + 1, none⟩ = some (.slice A0 xs[k].f1.length c0) := by
  obtain ⟨ad, A0, c0, A1, c1, hA, hl, hc, l0, l1, g0, g1⟩ := row_get h k hk hn
  refine ⟨ad, A0, c0, A1, c1, hA, l0, l1, g0, g1, fun w' hb => ⟨hl w' hb, ?_, ?_⟩⟩
  · have := hc 0 _ rfl
    exact (hb.cell (World.block_lt_of_cell? W _ this)).trans this
  · have := hc 1 _ rfl
    rw [add_field _ _ 1 (by omega)] at this
    exact (hb.cell (World.block_lt_of_cell? W _ this)).trans this
end Go.Proofs.YtgljicdpcapgnaaGreatDoor.Ps
namespace Go.Proofs.YtgljicdpcapgnaaGreatDoor
open Go.RowKit Go.Proofs.YtgljicdpcapgnaaGreatDoor.PBase Go.Proofs.YtgljicdpcapgnaaGreatDoorW.PrintWords Go.Proofs.YtgljicdpcapgnaaGreatDoorW.PrintLast Go.Proofs.YtgljicdpcapgnaaGreatDoorW.PrintMore
namespace Ps
theorem find_at {l : List Tn} {id : Int} {k : Nat} (h : ∀ y ∈ l.take k, y.f0 ≠ id) (hk : k < l.length) (he : l[k].f0 = id) : find l id = some l[k] := by
  obtain ⟨x, hx⟩ : ∃ x, l[k] = x := ⟨_, rfl⟩
  have e : l = l.take k ++ x :: l.drop (k + 1) := by rw [← hx, ← List.drop_eq_getElem_cons hk, List.take_append_drop]
  have h1 : List.find? (fun y : Tn => y.f0 == id) (l.take k) = none := by
    rw [List.find?_eq_none]
    intro y hy hh
    exact h y hy (by simpa using hh)
  rw [hx] at he ⊢
  have h2 : find l id = find (l.take k ++ x :: l.drop (k + 1)) id := by rw [← e]
  rw [h2]
  unfold find
  rw [List.find?_append, h1, Option.none_or, List.find?_cons_of_pos (by simpa using he)]
theorem sizeTr : (Tryz.prog.info? 81).map (·.size) = some 1 := by kernel_rfl
end Ps
theorem reftenant_.calls (p base : Nat) (l : List Ps.Tn) (id : Int) (w : World) (hT : Ps.Tr w base p l) (hl70 : l.length ≤ 70) (hW : ∀ x ∈ l, Ps.TnWf x) :
    Calls Tryz.prog 42 #[.pointer (some ⟨p, 0, none⟩), .int .u32 id] w (Ps.TenPost w l id) := by
  obtain ⟨A, c, _, hlc, hP, hF⟩ := hT
  have HC := az (Kd.F_now hF)
  have HSZ := az Ps.sizeTn
  have HW := az hW
  obtain ⟨n, HN⟩ : ∃ n, Aside0 (l.length = n) := ⟨_, ⟨rfl⟩⟩
  rw [HN.out] at hlc hl70 hP
  have HP := az hP
  have HLC := az hlc
  clear hF hW hP hlc
  have HA : Aside0 (Below w.heap.size w (w.alloc (.cells Ps.z5.toArray 74))) := ⟨below_alloc (Below.refl _ _) _⟩
  have HX : Aside0 (Wk.Blk (w.alloc (.cells Ps.z5.toArray 74)) w.heap.size 74 Ps.z5) := ⟨Wk.Blk.new w _ Ps.z5⟩
  have H0 : Aside0 (∀ y ∈ l.take 0, y.f0 ≠ id) := ⟨fun y hy => by simp at hy⟩
  go_enter Tryz.func42, Tryz.ntmps42
  go_wp2_with fail
  go_loopw [6] (fun v6 wr => ∃ k : Nat, v6 = .int .i64 k ∧ k ≤ n ∧ Aside0 (∀ y ∈ l.take k, y.f0 ≠ id) ∧ Aside0 (Below w.heap.size w wr) ∧ Aside0 (Wk.Blk wr w.heap.size 74 Ps.z5)) (fun v _ => n - (intOf v).toNat)
  case atStart => exact ⟨0, rfl, Nat.zero_le _, H0, HA, HX⟩
  case round =>
    clear H0 HA HX
    obtain ⟨k, rfl, hk, HNO, HB, HX⟩ := hrel
    have p0 := (HP.out.below_ HB.out).at_ 0 rfl
    by_cases hlt : k < n
    · have hltI : (k : Int) < n := by omega
      have hki : k < l.length := by rw [HN.out]; exact hlt
      obtain ⟨ad, B0, d0, B1, d1, hA, hl0, hl1, hg0, hg1, hrow⟩ := Ps.row_cells HC.out rfl k hki
      subst hA
      have HTK := az (List.take_succ_eq_append_getElem hki)
      have HXM := az (List.getElem_mem hki)
      have HFA : Aside0 (l[k].f0 = id → Ps.find l id = some l[k]) := ⟨fun he => Ps.find_at HNO.out hki he⟩
      obtain ⟨x, HXK⟩ : ∃ x, Aside0 (l[k] = x) := ⟨_, ⟨rfl⟩⟩
      rw [HXK.out] at hrow hl0 hl1 hg0 hg1 HTK HXM HFA
      have hwx := HW.out x HXM.out
      obtain ⟨i, l0, q, s, l1⟩ := x
      obtain ⟨_, hm0, hm1, -⟩ := hwx
      change l0.length ≤ 1000 at hm0
      change l1.length ≤ 1000 at hm1
      obtain ⟨n0, HN0⟩ : ∃ i, Aside0 (l0.length = i) := ⟨_, ⟨rfl⟩⟩
      obtain ⟨n1, HN1⟩ : ∃ i, Aside0 (l1.length = i) := ⟨_, ⟨rfl⟩⟩
      simp only [Ps.tnc] at hrow hl0 hl1
      have HG0 : Aside0 (Kd.C (Kd.int .u8) w B0 l0.length l0) := ⟨hg0⟩
      have HG1 : Aside0 (Kd.C (Kd.int .u32) w B1 l1.length l1) := ⟨hg1⟩
      rw [HN0.out, HN1.out] at hrow
      rw [HN0.out] at hm0 hl0
      rw [HN1.out] at hm1 hl1
      have HROW : Aside0 (∀ w', Below w.heap.size w w' → (Instr.loadAt 74 (.pointer (some (ad.add (k * 5))))).run Tryz.prog w' = .ok (.agg (Ps.tv i q s (.slice B0 n0 d0) (.slice B1 n1 d1)).toArray) w' ∧ w'.cell? (ad.add (k * 5)) = some (.int .u32 i)) := ⟨fun w' hb => ⟨(hrow w' hb).1, (hrow w' hb).2.1⟩⟩
      clear hrow hg0 hg1 HXK
      have cc1 := (HROW.out wr HB.out).2
      by_cases hid : i = id
      · have HFI := az (HFA.out hid)
        have hidb : (i == id) = true := by simpa using hid
        have HRN := az (HROW.out wr HB.out).1
        clear HFA hid HNO
        have HIU := az Cl.infoByte
        have HIV := az Cl32.infoByte
        have HS1 := az Ps.sizeSl
        have HS2 := az Ps.sizeSm
        have HAL : Aside0 ((([] : List Int).length + n0) * 1 ≤ 140737488355328 ∧ (([] : List Int).length + n1) * 4 ≤ 140737488355328) := ⟨by simp only [List.length_nil]; omega⟩
        go_wp2_with (first
          | refine Wk.load rfl 74 (.tmp 34) rfl _ (.pointer (some (ad.add (k * 5)))) rfl HRN.out ?_
          | (refine Wk.store_all rfl rfl 74 (.tmp 7) (.tmp 35) rfl wr.heap.size (Ps.tv i q s (.slice B0 n0 d0) (.slice B1 n1 d1)) rfl rfl 74 Ps.z5 (Wk.Blk.new wr 74 Ps.z5) HSZ.out rfl rfl ?_; intro w1 hX hO; have HF1 := az (Wk.Only.fresh HB.out HB.out.size hO); have HY1 := az hX; have HX1 := az (HX.out.below_ HF1.out.2.2); have HC10 := az (Kd.C_below HG0.out HF1.out.2.1); have HC11 := az (Kd.C_below HG1.out HF1.out.2.1); have k1 := hX.at_ 1 rfl; clear hX hO)
          | (at_builtin; refine Kd.R_append_rows (Kd.int .u8) (w0 := w) (W := w1) w.heap.size rfl (.tmp 36) (.tmp 38) 35 5 (.int .u8 0) 1 rfl Tryz.underlying35 HIU.out rfl (by decide) (by omega) (.slice none 0 0) ([] : List Int) l0 B0 n0 d0 (fun _ => True) (fun _ => False) rfl rfl (Kd.R_nil _ _ _ _ _) (by rw [← HN0.out]; exact HC10.out) (fun _ _ h => h) (fun _ h => h.elim) (fun _ _ => trivial) HF1.out.2.1 HF1.out.2.1.size HAL.out.1 ?_; intro v2 w2 ho hb hg _; rw [List.nil_append] at ho; obtain ⟨A2, e2, rfl⟩ := Kd.R_slice ho; rw [HN0.out] at ho ⊢; have HR2 := az ho; have HB2 := az hb; have hbw : Below w1.heap.size w1 w2 := ⟨hg.os, hg.tape, hg.output, hg.size, fun kk hkk => hg.block kk hkk (by simp [Value.ownBlock])⟩; have HX2 := az (HX1.out.below_ hbw); have HY2 := az (HY1.out.below_ hbw); have HC21 := az (Kd.C_below HC11.out hbw); have k4 := HY2.out.at_ 4 rfl; clear ho hb hg hbw k1)
          | (at_builtin; refine Kd.R_append_rows (Kd.int .u32) (w0 := w) (W := w2) w.heap.size rfl (.tmp 40) (.tmp 42) 72 36 (.int .u32 0) 4 rfl Tryz.underlying72 HIV.out rfl (by decide) (by omega) (.slice none 0 0) ([] : List Int) l1 B1 n1 d1 (fun _ => True) (fun _ => False) rfl rfl (Kd.R_nil _ _ _ _ _) (by rw [← HN1.out]; exact HC21.out) (fun _ _ h => h) (fun _ h => h.elim) (fun _ _ => trivial) HB2.out HB2.out.size HAL.out.2 ?_; intro v3 w3 ho hb hg _; rw [List.nil_append] at ho; obtain ⟨A3, e3, rfl⟩ := Kd.R_slice ho; rw [HN1.out] at ho ⊢; have HR3 := az ho; have HB3 := az hb; have hbw : Below w2.heap.size w2 w3 := ⟨hg.os, hg.tape, hg.output, hg.size, fun kk hkk => hg.block kk hkk (by simp [Value.ownBlock])⟩; have HX3 := az (HX2.out.below_ hbw); have HY3 := az (HY2.out.below_ hbw); have HU3 := az (Kd.R_below HR2.out hbw); clear ho hb hg hbw k4)
          | (refine Wk.store rfl rfl 35 (.tmp 45) (.tmp 44) rfl wr.heap.size 1 (.slice A2 n0 e2) [.slice A2 n0 e2] rfl rfl rfl 74 _ HY3.out HS1.out (Nat.le_of_ble_eq_true rfl) rfl ?_; intro w4 hX hO; have HY4 := az (show Wk.Blk w4 wr.heap.size 74 (Ps.tv i q s (.slice A2 n0 e2) (.slice B1 n1 d1)) from hX); have HO4 := az hO; clear hX hO)
          | (refine Wk.store rfl rfl 72 (.tmp 47) (.tmp 46) rfl wr.heap.size 4 (.slice A3 n1 e3) [.slice A3 n1 e3] rfl rfl rfl 74 _ HY4.out HS2.out (Nat.le_of_ble_eq_true rfl) rfl ?_; intro w5 hX hO; have HY5 := az (show Wk.Blk w5 wr.heap.size 74 (Ps.tv i q s (.slice A2 n0 e2) (.slice A3 n1 e3)) from hX); have HO5 := az hO; have HNE : Aside0 (w.heap.size ≠ wr.heap.size) := ⟨by have := HX.out.lt; omega⟩; have HX5 := az ((HX3.out.only HO4.out HNE.out).only hO HNE.out); clear hX hO)
          | refine Wk.load rfl 74 (.tmp 7) rfl (.agg (Ps.tv i q s (.slice A2 n0 e2) (.slice A3 n1 e3)).toArray) (.pointer (some ⟨wr.heap.size, 0, none⟩)) rfl (Wk.run_load_blk 74 wr.heap.size 0 _ _ HY5.out rfl Tryz.underlying74 rfl HSZ.out) ?_
          | (refine Wk.store_all rfl rfl 74 (.tmp 4) (.tmp 48) rfl w.heap.size (Ps.tv i q s (.slice A2 n0 e2) (.slice A3 n1 e3)) rfl rfl 74 _ HX5.out HSZ.out rfl rfl ?_; intro w6 hX hO; have HX6 := az hX; have HO6 := az hO; clear hX hO))
        refine bodyPost_ret (Wk.res_ct rfl _ w.heap.size 74 _ _ rfl HX6.out Tryz.underlying74 rfl HSZ.out) rfl ?_
        have hne : ∀ q, q ∈ 5 :: (Kd.int .u8).E → q ≠ 74 := by decide
        have hne' : ∀ q, q ∈ 36 :: (Kd.int .u32).E → q ≠ 74 := by decide
        have hb4 := Wk.Only.below HB3.out HO4.out HB.out.size
        have hb5 := Wk.Only.below hb4 HO5.out HB.out.size
        have hR := Wk.R_only (Wk.R_only (Wk.R_only HU3.out HY3.out hne HO4.out) HY4.out hne HO5.out) HX5.out hne HO6.out
        have hR' := Wk.R_only (Wk.R_only (Wk.R_only HR3.out HY3.out hne' HO4.out) HY4.out hne' HO5.out) HX5.out hne' HO6.out
        have c2' : n0 ≤ e2 := (Kd.R_reads' hR).2.1
        have c3' : n1 ≤ e3 := (Kd.R_reads' hR').2.1
        unfold Ps.TenPost
        rw [HFI.out]
        simp only [Option.getD_some, Option.isSome_some]
        refine ⟨Wk.Only.below hb5 HO6.out (Nat.le_refl _), A2, e2, A3, e3, ?_, ?_, ?_, ?_, ?_⟩
        · simp only [Ps.tnc]; rw [HN0.out, HN1.out]; rfl
        · rw [HN0.out]; exact c2'
        · rw [HN1.out]; exact c3'
        · rw [HN0.out]; exact hR
        · rw [HN1.out]; exact hR'
      · have hidb : (i == id) = false := by simpa using hid
        clear HFA
        go_wp2_with fail
        refine ⟨⟨k + 1, by simp, by omega, ⟨?_⟩, HB, HX⟩, by simp [intOf]; omega⟩
        intro y hy
        rw [HTK.out] at hy
        rcases List.mem_append.1 hy with h | h
        · exact HNO.out y h
        · rw [List.mem_singleton.1 h]; exact hid
    · obtain rfl : k = n := by omega
      have HFN : Aside0 (Ps.find l id = none) := ⟨Ps.find_none.2 (by
        have := HNO.out
        rwa [List.take_of_length_le (by rw [HN.out]; exact Nat.le_refl _)] at this)⟩
      go_wp2_with (refine Wk.store_all rfl rfl 74 (.tmp 4) (.tmp 49) rfl w.heap.size Ps.z5 rfl rfl 74 _ HX.out HSZ.out rfl rfl ?_; intro w4 hX hO; have HX4 := az hX; have HO4 := az hO; clear hX hO)
      refine bodyPost_ret (Wk.res_ct rfl _ w.heap.size 74 _ _ rfl HX4.out Tryz.underlying74 rfl HSZ.out) rfl ?_
      unfold Ps.TenPost
      rw [HFN.out]
      exact ⟨Wk.Only.below HB.out HO4.out (Nat.le_refl _), none, 0, none, 0, rfl, Nat.le_refl _, Nat.le_refl _, Kd.R_nil _ _ _ _ _, Kd.R_nil _ _ _ _ _⟩
namespace Ps
def Rt (W : World) (base p : Nat) (l : List Tn) : Prop := ∃ A c, base ≤ p ∧ Wk.Blk W p 81 [.slice A l.length c] ∧ Kd.R kTn 74 W base (fun _ => True) (.slice A l.length c) l
theorem Rt.tr {W : World} {base p : Nat} {l : List Tn} (h : Rt W base p l) : Tr W base p l := by
  obtain ⟨A, c, h1, h2, h3⟩ := h
  exact ⟨A, c, h1, (Kd.R_reads' h3).2.1, h2, Kd.F_mono (Kd.R_F (Kd.R_bound h3)) (fun k hk => hk.2.1)⟩
theorem Rt.below {W W' : World} {base p : Nat} {l : List Tn} (h : Rt W base p l) (hb : Below W.heap.size W W') : Rt W' base p l := by
  obtain ⟨A, c, h1, h2, h3⟩ := h
  exact ⟨A, c, h1, h2.below_ hb, Kd.R_below h3 hb⟩
def RNewPost (w : World) (n : Nat) (l : List Tn) (e : Ending) (w' : World) : Prop :=
  Below w.heap.size w w' ∧ ((64 < n ∧ e = .returned (.tuple #[.pointer none, .int .i64 3])) ∨ (n ≤ 64 ∧ good [] l = false ∧ e = .returned (.tuple #[.pointer none, .int .i64 1])) ∨ (n ≤ 64 ∧ good [] l = true ∧ ∃ p, e = .returned (.tuple #[.pointer (some ⟨p, 0, none⟩), .int .i64 0]) ∧ Tr w' w.heap.size p l))
theorem sizeTs : (Tryz.prog.info? 22).map (·.size) = some 1 := by kernel_rfl
theorem kTn_ne : ∀ q, q ∈ 74 :: kTn.E → q ≠ 81 := by decide
end Ps
theorem refnew_.calls (A : Option Addr) (n c : Nat) (l : List Ps.Tn) (w : World) (hC : Ps.kTn.C w A l.length l) (hn : l.length = n) (hw : ∀ x ∈ l, Ps.TnWf x) :
    Calls Tryz.prog 25 #[.slice A n c] w (Ps.RNewPost w n l) := by
  have HC := az hC
  have HN := az hn
  have HW := az hw
  clear hC hn hw
  have HSZ := az Ps.sizeTn
  have HST := az Ps.sizeTr
  have HTS := az Ps.sizeTs
  go_enter Tryz.func25, Tryz.ntmps25
  by_cases h64 : 64 < n
  · go_wp2_with fail
    go_ret2
    exact ⟨Below.refl _ _, .inl ⟨h64, rfl⟩⟩
  · have h64I : (n : Int) ≤ 64 := by omega
    go_wp2_with fail
    obtain ⟨pt, HPT⟩ : ∃ b, Aside0 (w.heap.size = b) := ⟨_, ⟨rfl⟩⟩
    generalize hWq : World.alloc w _ = W0
    have HB0 : Aside0 (Below w.heap.size w W0) := ⟨by rw [← hWq]; exact below_alloc (Below.refl _ _) _⟩
    have HR0 : Aside0 (Ps.Rt W0 w.heap.size pt []) := ⟨by
      rw [← HPT.out]
      exact ⟨none, 0, Nat.le_refl _, by rw [← hWq]; exact Wk.Blk.new w _ [.slice none 0 0], Kd.R_nil _ _ _ _ _⟩⟩
    clear hWq
    rw [HPT.out]
    go_loopw [5] (fun v wr => ∃ k : Nat, v = .int .i64 k ∧ k ≤ n ∧ Aside0 (Ps.Rt wr w.heap.size pt (l.take k)) ∧ Aside0 (Below w.heap.size w wr) ∧ Aside0 (Ps.good (l.take k) (l.drop k) = Ps.good [] l)) (fun v _ => n - (intOf v).toNat)
    case atStart => exact ⟨0, rfl, Nat.zero_le _, HR0, HB0, ⟨rfl⟩⟩
    case round =>
      clear HR0 HB0
      obtain ⟨k, rfl, hk, HT, HB, HG⟩ := hrel
      by_cases hlt : k < n
      · have hltI : (k : Int) < n := by omega
        have hki : k < l.length := by rw [HN.out]; exact hlt
        obtain ⟨ad, B0, d0, B1, d1, hA, hl0, hl1, hg0, hg1, hrow⟩ := Ps.row_cells HC.out rfl k hki
        subst hA
        have HTK := az (List.take_succ_eq_append_getElem hki)
        have HDK := az (List.drop_eq_getElem_cons hki)
        have hwx := HW.out _ (List.getElem_mem hki)
        obtain ⟨x, HXK⟩ : ∃ x, Aside0 (l[k] = x) := ⟨_, ⟨rfl⟩⟩
        rw [HXK.out] at hrow hl0 hl1 hg0 hg1 HTK HDK hwx
        obtain ⟨i, l0, q, s, l1⟩ := x
        obtain ⟨_, hm0, hm1, -⟩ := hwx
        change l0.length ≤ 1000 at hm0
        change l1.length ≤ 1000 at hm1
        obtain ⟨n0, HN0⟩ : ∃ i, Aside0 (l0.length = i) := ⟨_, ⟨rfl⟩⟩
        obtain ⟨n1, HN1⟩ : ∃ i, Aside0 (l1.length = i) := ⟨_, ⟨rfl⟩⟩
        simp only [Ps.tnc] at hrow hl0 hl1
        have HG0 : Aside0 (Kd.C (Kd.int .u8) w B0 l0.length l0) := ⟨hg0⟩
        have HG1 : Aside0 (Kd.C (Kd.int .u32) w B1 l1.length l1) := ⟨hg1⟩
        rw [HN0.out, HN1.out] at hrow
        rw [HN0.out] at hm0 hl0
        rw [HN1.out] at hm1 hl1
        have HROW : Aside0 (∀ w', Below w.heap.size w w' → (Instr.loadAt 74 (.pointer (some (ad.add (k * 5))))).run Tryz.prog w' = .ok (.agg (Ps.tv i q s (.slice B0 n0 d0) (.slice B1 n1 d1)).toArray) w' ∧ w'.cell? (ad.add (k * 5)) = some (.int .u32 i) ∧ w'.cell? ⟨(ad.add (k * 5)).block, (ad.add (k * 5)).off + 1, none⟩ = some (.slice B0 n0 d0)) := ⟨fun w' hb => hrow w' hb⟩
        have HLK : Aside0 ((l.take k).length = k) := ⟨by rw [List.length_take]; omega⟩
        clear hrow hg0 hg1 HXK
        have cc0 := (HROW.out wr HB.out).2.1
        go_wp2_with fail
        clear cc0
        refine (reftenant_.calls pt w.heap.size (l.take k) i wr HT.out.tr (by rw [HLK.out]; omega) (fun x hx => HW.out x (List.mem_of_mem_take hx))).mono ?_
        rintro e w4 ⟨hb4, Z0, z0, Z1, z1, rfl, -⟩
        generalize (Ps.find (l.take k) i).getD Ps.zn = y
        obtain ⟨yi, yl, yq, ys, ym⟩ := y
        simp only [Ps.tnc]
        generalize yl.length = yn
        generalize ym.length = yz
        have HB4 := az (below_then HB.out HB.out.size hb4)
        have HT4 := az (HT.out.below hb4)
        obtain ⟨fd, HFD⟩ : ∃ b, Aside0 ((Ps.find (l.take k) i).isSome = b) := ⟨_, ⟨rfl⟩⟩
        rw [HFD.out]
        clear hb4 HT HB
        have HB5 : Aside0 (Below w.heap.size w (w4.alloc (.cells #[.int .u32 yi, .slice Z0 yn z0, .int .u64 yq, .int .u64 ys, .slice Z1 yz z1] 74))) := ⟨HB4.out.alloc HB4.out.size _⟩
        have HT5 : Aside0 (Ps.Rt (w4.alloc (.cells #[.int .u32 yi, .slice Z0 yn z0, .int .u64 yq, .int .u64 ys, .slice Z1 yz z1] 74)) w.heap.size pt (l.take k)) := ⟨HT4.out.below (below_alloc (Below.refl _ _) _)⟩
        have cc1 := (HROW.out _ HB5.out).2.2
        cases fd with
        | true =>
          go_wp2_with fail
          go_ret2
          refine ⟨HB5.out, .inr (.inl ⟨by omega, ?_, rfl⟩)⟩
          rw [← HG.out, HDK.out]
          obtain ⟨y, hy⟩ := Option.isSome_iff_exists.1 HFD.out
          exact Ps.good_there _ _ _ hy
        | false =>
          have HFN : Aside0 (Ps.find (l.take k) i = none) := ⟨by
            have := HFD.out
            cases h : Ps.find (l.take k) i with
            | none => rfl
            | some y => rw [h] at this; cases this⟩
          by_cases hz : n0 = 0
          · have hzI : ((n0 : Int) == 0) = true := by simpa using hz
            go_wp2_with fail
            go_ret2
            refine ⟨HB5.out, .inr (.inl ⟨by omega, ?_, rfl⟩)⟩
            rw [← HG.out, HDK.out]
            exact Ps.good_bare _ _ _ (by show l0.length = 0; rw [HN0.out]; exact hz)
          · have hzI : ((n0 : Int) == 0) = false := by simpa using hz
            clear cc1 HB5 HT5
            have HIU := az Cl.infoByte
            have HIV := az Cl32.infoByte
            have HS1 := az Ps.sizeSl
            have HS2 := az Ps.sizeSm
            have HAL : Aside0 ((([] : List Int).length + n0) * 1 ≤ 140737488355328 ∧ (([] : List Int).length + n1) * 4 ≤ 140737488355328) := ⟨by simp only [List.length_nil]; omega⟩
            go_wp2_with (first
              | (refine Wk.store_all rfl rfl 74 (.tmp 6) (.tmp 30) rfl w4.heap.size [.int .u32 yi, .slice Z0 yn z0, .int .u64 yq, .int .u64 ys, .slice Z1 yz z1] rfl rfl 74 Ps.z5 (Wk.Blk.new w4 74 Ps.z5) HSZ.out rfl rfl ?_; intro w6 hX hO; have HF6 := az (Wk.Only.fresh HB4.out HB4.out.size hO); have HT6 := az (HT4.out.below HF6.out.2.2); have cc1 := (HROW.out w6 HF6.out.2.1).2.2; have HRN6 := az (HROW.out w6 HF6.out.2.1).1; clear hX hO)
              | refine Wk.load rfl 74 (.tmp 44) rfl _ (.pointer (some (ad.add (k * 5)))) rfl HRN6.out ?_
              | (refine Wk.store_all rfl rfl 74 (.tmp 8) (.tmp 45) rfl w6.heap.size (Ps.tv i q s (.slice B0 n0 d0) (.slice B1 n1 d1)) rfl rfl 74 Ps.z5 (Wk.Blk.new w6 74 Ps.z5) HSZ.out rfl rfl ?_; intro w1 hX hO; have HF1 := az (Wk.Only.fresh HF6.out.2.1 HF6.out.2.1.size hO); have HY1 := az hX; have HT1 := az (HT6.out.below HF1.out.2.2); have HC10 := az (Kd.C_below HG0.out HF1.out.2.1); have HC11 := az (Kd.C_below HG1.out HF1.out.2.1); have k1 := hX.at_ 1 rfl; obtain ⟨g8, HG8⟩ : ∃ b, Aside0 (w6.heap.size = b) := ⟨_, ⟨rfl⟩⟩; rw [HG8.out] at HY1 k1 ⊢; clear hX hO cc1)
              | (at_builtin; refine Kd.R_append_rows (Kd.int .u8) (w0 := w1) (W := w1) w1.heap.size rfl (.tmp 46) (.tmp 48) 35 5 (.int .u8 0) 1 rfl Tryz.underlying35 HIU.out rfl (by decide) (by omega) (.slice none 0 0) ([] : List Int) l0 B0 n0 d0 (fun _ => True) (fun _ => False) rfl rfl (Kd.R_nil _ _ _ _ _) (by rw [← HN0.out]; exact HC10.out) (fun _ _ h => h) (fun _ h => h.elim) (fun _ _ => trivial) (Below.refl _ _) (Nat.le_refl _) HAL.out.1 ?_; intro v2 w2 ho hb hg _; rw [List.nil_append] at ho; obtain ⟨A2, e2, rfl⟩ := Kd.R_slice ho; rw [HN0.out] at ho ⊢; have HR2 := az ho; have HB2 := az hb; have HY2 := az (HY1.out.below_ hb); have HC21 := az (Kd.C_below HC11.out hb); have k4 := HY2.out.at_ 4 rfl; clear ho hb hg k1)
              | (at_builtin; refine Kd.R_append_rows (Kd.int .u32) (w0 := w1) (W := w2) w1.heap.size rfl (.tmp 50) (.tmp 52) 72 36 (.int .u32 0) 4 rfl Tryz.underlying72 HIV.out rfl (by decide) (by omega) (.slice none 0 0) ([] : List Int) l1 B1 n1 d1 (fun _ => True) (fun _ => False) rfl rfl (Kd.R_nil _ _ _ _ _) (by rw [← HN1.out]; exact HC21.out) (fun _ _ h => h) (fun _ h => h.elim) (fun _ _ => trivial) HB2.out HB2.out.size HAL.out.2 ?_; intro v3 w3 ho hb hg _; rw [List.nil_append] at ho; obtain ⟨A3, e3, rfl⟩ := Kd.R_slice ho; rw [HN1.out] at ho ⊢; have HR3 := az ho; have HB3 := az hb; have hbw : Below w2.heap.size w2 w3 := ⟨hg.os, hg.tape, hg.output, hg.size, fun kk hkk => hg.block kk hkk (by simp [Value.ownBlock])⟩; have HY3 := az (HY2.out.below_ hbw); have HU3 := az (Kd.R_below HR2.out hbw); have HT3 := az (HT1.out.below hb); clear ho hb hg hbw k4)
              | (refine Wk.store rfl rfl 35 (.tmp 55) (.tmp 54) rfl g8 1 (.slice A2 n0 e2) [.slice A2 n0 e2] rfl rfl rfl 74 _ HY3.out HS1.out (Nat.le_of_ble_eq_true rfl) rfl ?_; intro w7 hX hO; have HY7 := az (show Wk.Blk w7 g8 74 (Ps.tv i q s (.slice A2 n0 e2) (.slice B1 n1 d1)) from hX); have HO7 := az hO; clear hX hO)
              | (refine Wk.store rfl rfl 72 (.tmp 57) (.tmp 56) rfl g8 4 (.slice A3 n1 e3) [.slice A3 n1 e3] rfl rfl rfl 74 _ HY7.out HS2.out (Nat.le_of_ble_eq_true rfl) rfl ?_; intro w8 hX hO; have HY8 := az (show Wk.Blk w8 g8 74 (Ps.tv i q s (.slice A2 n0 e2) (.slice A3 n1 e3)) from hX); have HO8 := az hO; clear hX hO))
            obtain ⟨A6, c6, hbp6, hblk6, hR6⟩ := HT6.out
            rw [HLK.out] at hblk6 hR6
            have hb13 := below_then HF1.out.2.2 HF1.out.2.2.size HB3.out
            have HG6 : Aside0 (w6.heap.size ≤ g8 ∧ pt ≠ g8 ∧ w6.heap.size ≤ w1.heap.size ∧ w.heap.size ≤ w6.heap.size) := ⟨by rw [← HG8.out]; exact ⟨Nat.le_refl _, by have := hblk6.lt; omega, HF1.out.2.2.size, HF6.out.2.1.size⟩⟩
            have HPB : Aside0 (Wk.Blk w8 pt 81 [.slice A6 k c6]) := ⟨((hblk6.below_ hb13).only HO7.out HG6.out.2.1).only HO8.out HG6.out.2.1⟩
            have HRR : Aside0 (Kd.R Ps.kTn 74 w8 w.heap.size (fun j => j < w6.heap.size) (.slice A6 k c6) (l.take k)) := ⟨by
              have h1 : Kd.R Ps.kTn 74 w6 w.heap.size (fun j => j < w6.heap.size) (.slice A6 k c6) (l.take k) := Kd.R_mono (Kd.R_bound hR6) (fun j hj => hj.2.2.1)
              have h2 := Kd.R_below h1 hb13
              have hne : ∀ j, j < w6.heap.size → some j ≠ some g8 := fun j hj he => by have := Option.some.inj he; have := HG6.out.1; omega
              exact Kd.R_grown (Kd.R_grown h2 HO7.out.grown hne) HO8.out.grown hne⟩
            have hne : ∀ q, q ∈ 5 :: (Kd.int .u8).E → q ≠ 74 := by decide
            have hne' : ∀ q, q ∈ 36 :: (Kd.int .u32).E → q ≠ 74 := by decide
            have HUU := az (Wk.R_only (Wk.R_only HU3.out HY3.out hne HO7.out) HY7.out hne HO8.out)
            have HVV := az (Wk.R_only (Wk.R_only HR3.out HY3.out hne' HO7.out) HY7.out hne' HO8.out)
            have HB8 : Aside0 (Below w.heap.size w w8) := ⟨by
              have hg : w.heap.size ≤ g8 := Nat.le_trans HF6.out.2.1.size HG6.out.1
              exact Wk.Only.below (Wk.Only.below (below_then HF1.out.2.1 HF1.out.2.1.size HB3.out) HO7.out hg) HO8.out hg⟩
            have HBS : Aside0 (w.heap.size ≤ pt) := ⟨hbp6⟩
            have HLM : Aside0 (((l.take k).length + 1) * 72 ≤ 140737488355328) := ⟨by rw [HLK.out]; omega⟩
            clear hbp6 hblk6 hR6 hb13 hne hne' HT6 HT1 HT3 HT4 HB4 HF6 HF1 HY1 HY2 HY3 HY7 HO7 HO8 HR2 HR3 HU3 HB2 HB3 HC10 HC11 HC21 HRN6
            refine wp_region_noPanic ?_
            refine Rg.s1 11 (fun w' => Below w8.heap.size w8 w') [7, 10] (Below.refl _ _).drew #[false, false, false, false, false, false, false, false, false, false, false] (fun hHeld => ?_)
            refine Rg.p1 0 (.some 58) ?_
            refine Rg.p1 1 (.some 59) ?_
            refine Rg.p1 2 (.some 60) ?_
            refine Rg.p1 3 (.some 61) ?_
            refine Rg.t1 4 (.some 62) hHeld ?_ (hy := by intro w' hS'; (have c1 := (HPB.out.below_ hS').at_ 0 rfl; go_simp); first | done | with_reducible rfl)
            refine Rg.t1 5 (.some 63) hHeld ?_ (hy := by intro w' hS'; (have hl := Wk.run_load_blk (P := Tryz.prog) 74 g8 0 (Ps.tv i q s (.slice A2 n0 e2) (.slice A3 n1 e3)) _ (HY8.out.below_ hS') rfl Tryz.underlying74 rfl HSZ.out; refine (Wk.exec_load 74 (.tmp 8) rfl _ _ rfl hl).trans ?_); first | done | with_reducible rfl)
            refine Rg.o1 6 (.some 64) (fun K hK => ?_)
            refine value_ (w1 := w8.drew.alloc (.cells (Ps.tv i q s (.slice A2 n0 e2) (.slice A3 n1 e3)).toArray 74)) (v := .slice (some ⟨w8.drew.heap.size, 0, none⟩) 1 1) (by rfl) rfl (by first | (go_simp; done) | (go_simp; rfl)) ?_
            refine hK.out _ _ (hHeld.alloc hHeld.size _) (fun hHeld => ?_)
            clear hK K
            refine Rg.n1 ?_
            have HH9 : Aside0 (Below w8.heap.size w8 w8.drew) := ⟨(Below.refl _ _).drew⟩
            have HRO : Aside0 (Kd.R Ps.kTn 74 w8.drew w.heap.size (fun _ => True) (.slice A6 k c6) (l.take k)) := ⟨Kd.R_mono (Kd.R_below HRR.out HH9.out) (fun _ _ => trivial)⟩
            have HBB : Aside0 (Below w.heap.size w w8.drew ∧ w.heap.size ≤ w8.drew.heap.size) := ⟨below_then HB8.out HB8.out.size HH9.out, (below_then HB8.out HB8.out.size HH9.out).size⟩
            have HOW : Aside0 (∀ j, (Value.slice A6 k c6).ownBlock = some j → j < w6.heap.size) := ⟨fun j hj => HRR.out.1 j hj⟩
            have HMM : Aside0 (Ps.kTn.M w8.drew w.heap.size (fun j => True ∧ some j ≠ (Value.slice A6 k c6).ownBlock) ⟨i, l0, q, s, l1⟩ (Ps.tv i q s (.slice A2 n0 e2) (.slice A3 n1 e3))) := ⟨by
              have hok : ∀ j, w1.heap.size ≤ j → True ∧ some j ≠ (Value.slice A6 k c6).ownBlock := fun j hj => ⟨trivial, fun he => by have := HOW.out j he.symm; have := HG6.out.2.2.1; omega⟩
              have hle : w.heap.size ≤ w1.heap.size := Nat.le_trans HG6.out.2.2.2 HG6.out.2.2.1
              have r2 := Kd.R_lower (Kd.R_mono (Kd.R_bound (Kd.R_below HUU.out HH9.out)) (fun j hj => hok j hj.2.1)) hle
              have r3 := Kd.R_lower (Kd.R_mono (Kd.R_bound (Kd.R_below HVV.out HH9.out)) (fun j hj => hok j hj.2.1)) hle
              exact PBase.k74_mkM w8.drew w.heap.size _ ⟨i, l0, q, s, l1⟩ r2 r3⟩
            refine Rg.l1 7 (.some 65) (fun K hK => ?_)
            refine Kd.R_append_step Ps.kTn (w0 := w) (W := w8.drew) w.heap.size (by rfl) (.tmp 62) (.tmp 64) 22 74 (.agg Ps.z5.toArray) 72 rfl Tryz.underlying22 Ps.infoTn rfl (by decide) (by omega) (.slice A6 k c6) (l.take k) ⟨i, l0, q, s, l1⟩ (Ps.tv i q s (.slice A2 n0 e2) (.slice A3 n1 e3)) (fun _ => True) (fun j => True ∧ some j ≠ (Value.slice A6 k c6).ownBlock) rfl rfl HMM.out (fun _ h => h) (fun _ _ => trivial) HRO.out HBB.out.1 HBB.out.2 HLM.out ?_
            intro v3 w11 hr3 hb3 hg3 _
            obtain ⟨A9, c9, rfl⟩ := Kd.R_slice hr3
            have hL : (l.take k ++ [(⟨i, l0, q, s, l1⟩ : Ps.Tn)]).length = k + 1 := by rw [List.length_append, HLK.out]; rfl
            rw [hL] at hr3 ⊢
            have HR11 := az hr3
            have HB11 := az hb3
            have hpo : some pt ≠ (Value.slice A6 k c6).ownBlock := fun he => Kd.R_ne HRO.out (HPB.out.below_ HH9.out).out (by decide) he
            have HP11 := az ((HPB.out.below_ HH9.out).grown hg3 hpo)
            clear hr3 hb3 hg3 hL hpo
            refine hK.out _ _ ?_
            clear hK K
            refine Rg.n1 ?_
            refine Rg.p1 8 (.some 66) ?_
            refine Rg.p1 9 (.some 67) ?_
            refine Rg.l1 10 none (fun K hK => ?_)
            refine Wk.store_step (by rfl) rfl 22 (.tmp 67) (.tmp 65) rfl pt 0 (.slice A9 (k + 1) c9) [.slice A9 (k + 1) c9] rfl rfl rfl 81 _ HP11.out HTS.out (Nat.le_refl 1) rfl ?_
            intro w12 hX hO
            have HP12 := az (show Wk.Blk w12 pt 81 [.slice A9 (k + 1) c9] from hX)
            have HO12 := az hO
            clear hX hO
            refine hK.out _ _ ?_
            clear hK K
            refine Rg.d1 ?_
            refine NoPanic.normal ?_
            go_wp2_with fail
            have HLK2 : (l.take (k + 1)).length = k + 1 := by rw [List.length_take]; omega
            refine ⟨⟨k + 1, by simp, by omega, ⟨A9, c9, HBS.out, ?_, ?_⟩, ⟨Wk.Only.below HB11.out HO12.out HBS.out⟩, ⟨?_⟩⟩, by simp [intOf]; omega⟩
            · rw [HLK2]; exact HP12.out
            · rw [HLK2, HTK.out]
              exact Wk.R_only HR11.out HP11.out Ps.kTn_ne HO12.out
            · rw [HTK.out, ← HG.out, HDK.out]
              exact (Ps.good_step _ _ _ HFN.out (by show 0 < l0.length; rw [HN0.out]; omega)).symm
      · obtain rfl : k = n := by omega
        go_wp2_with fail
        go_ret2
        refine ⟨HB.out, .inr (.inr ⟨by omega, ?_, pt, rfl, ?_⟩)⟩
        · rw [← HG.out, List.drop_of_length_le (by rw [HN.out]; exact Nat.le_refl _)]
          rfl
        · have := HT.out.tr
          rwa [List.take_of_length_le (by rw [HN.out]; exact Nat.le_refl _)] at this
namespace Ps
def RChPost (w : World) (l : List Tn) (s : ByteArray) (e : Ending) (w' : World) : Prop :=
  e = .returned (.tuple #[.agg (tkc (check l s).1).toArray, .int .i64 (check l s).2]) ∧ Below w.heap.size w w'
theorem str_ne {a b : ByteArray} (h : ¬ a = b) : (a.toList == b.toList) = false := by
  rw [beq_eq_false_iff_ne]
  intro e
  rw [Go.ByteArray.toList_eq, Go.ByteArray.toList_eq] at e
  exact h (by cases a; cases b; exact congrArg ByteArray.mk (Array.toList_inj.1 e))
end Ps
theorem refcheck_.calls (p base : Nat) (l : List Ps.Tn) (s : ByteArray) (w : World) (hT : Ps.Tr w base p l) (hl70 : l.length ≤ 70) (hs : s.size ≤ 10000) (hW : ∀ x ∈ l, Ps.TnWf x) :
  Calls Tryz.prog 80 #[.pointer (some ⟨p, 0, none⟩), .string s] w (Ps.RChPost w l s) := by
 have HT := az hT
 have HW := az hW
 have HL7 := az hl70
 have HSS := az hs
 have HSZ := az Ps.sizeTn
 have HSK := az Ps.sizeTk
 clear hT hW hl70 hs
 have HA : Aside0 (Below w.heap.size w (w.alloc (.cells Ps.zt4.toArray 122))) := ⟨below_alloc (Below.refl _ _) _⟩
 have HX0 : Aside0 (Wk.Blk (w.alloc (.cells Ps.zt4.toArray 122)) w.heap.size 122 Ps.zt4) := ⟨Wk.Blk.new w _ Ps.zt4⟩
 go_enter Tryz.func80, Tryz.ntmps80
 go_wp2_with fail
 obtain ⟨ti, se, ro, sz, er, HLK⟩ : ∃ ti se ro sz er, Aside0 (Ps.look s = ((ti, se, ro, sz), er)) := ⟨_, _, _, _, _, ⟨rfl⟩⟩
 refine (rlook_.calls s _ HSS.out HLK.out).mono ?_
 rintro e w2 ⟨rfl, hb2⟩
 have HX2 := az (HX0.out.below_ hb2)
 have HB2 := az (below_then HA.out HA.out.size hb2)
 have HT2 := az (HT.out.below HB2.out)
 clear hb2 HA HX0 HT
 have HB3 : Aside0 (Below w2.heap.size w2 (w2.alloc (.cells #[.int .u32 ti, .int .u32 se, .bool ro, .int .u64 sz] 122))) := ⟨below_alloc (Below.refl _ _) _⟩
 have HK3 : Aside0 (Wk.Blk (w2.alloc (.cells #[.int .u32 ti, .int .u32 se, .bool ro, .int .u64 sz] 122)) w2.heap.size 122 (Ps.tkc (ti, se, ro, sz))) := ⟨Wk.Blk.new w2 _ (Ps.tkc (ti, se, ro, sz))⟩
 by_cases hi : Ps.is s = true
 ·have HIS := az hi
  obtain ⟨hfm, hgb, -⟩ := Ps.got_of s hi
  have HGB := az hgb
  obtain ⟨HTK, rfl⟩ : Aside0 (Ps.tok (Ps.got s) = (ti, se, ro, sz)) ∧ er = 0 := by
   have := HLK.out
   unfold Ps.look at this
   rw [if_pos hi] at this
   exact ⟨⟨congrArg Prod.fst this⟩, (congrArg Prod.snd this).symm⟩
  have hwf := Ps.tok_wf _ hgb
  rw [HTK.out] at hwf
  have HTW : Aside0 (Ps.TkWf (ti, se, ro, sz)) := ⟨hwf⟩
  clear hfm hgb hi hwf HLK
  have cc0 := HK3.out.at_ 0 rfl
  simp only at cc0
  go_wp2_with fail
  clear cc0
  generalize w2.alloc (.cells #[.int .u32 ti, .int .u32 se, .bool ro, .int .u64 sz] 122) = w3 at *
  have HX3 := az (HX2.out.below_ HB3.out)
  have HB30 := az (below_then HB2.out HB2.out.size HB3.out)
  obtain ⟨g6, HG6⟩ : ∃ b, Aside0 (w2.heap.size = b) := ⟨_, ⟨rfl⟩⟩
  rw [HG6.out] at HK3 ⊢
  refine (reftenant_.calls p base l ti w3 (HT2.out.below HB3.out) HL7.out HW.out).mono ?_
  rintro e w4 ⟨hb4, A0, d0, A1, d1, rfl, hc0, hc1, hr0, hr1⟩
  obtain ⟨hwf, hwn⟩ : Ps.TnWf ((Ps.find l ti).getD Ps.zn) ∧ ((Ps.find l ti).isSome = true → Ps.find l ti = some ((Ps.find l ti).getD Ps.zn)) := ⟨Ps.got_wf HW.out ti, fun h => by
   obtain ⟨y, hy⟩ := Option.isSome_iff_exists.1 h
   rw [hy]; rfl⟩
  obtain ⟨fd, HFD⟩ : ∃ b, Aside0 ((Ps.find l ti).isSome = b) := ⟨_, ⟨rfl⟩⟩
  obtain ⟨x, HXX⟩ : ∃ x, Aside0 ((Ps.find l ti).getD Ps.zn = x) := ⟨_, ⟨rfl⟩⟩
  rw [HFD.out] at hwn ⊢
  rw [HXX.out] at hc0 hc1 hr0 hr1 hwf hwn ⊢
  have HFN := az hwn
  obtain ⟨i, l0, q, sx, l1⟩ := x
  obtain ⟨_, hm0, hm1, hby⟩ := hwf
  change l0.length ≤ 1000 at hm0
  change l1.length ≤ 1000 at hm1
  change l0.length ≤ d0 at hc0
  change l1.length ≤ d1 at hc1
  simp only [Ps.tnc]
  have HBY : Aside0 (Sh.Bytes l0) := ⟨hby⟩
  obtain ⟨n0, HN0⟩ : ∃ n, Aside0 (l0.length = n) := ⟨_, ⟨rfl⟩⟩
  obtain ⟨n1, HN1⟩ : ∃ n, Aside0 (l1.length = n) := ⟨_, ⟨rfl⟩⟩
  rw [HN0.out] at hm0 hc0 hr0 ⊢
  rw [HN1.out] at hm1 hc1 hr1 ⊢
  have HB4 := az (below_then HB30.out HB30.out.size hb4)
  have HX4 := az (HX3.out.below_ hb4)
  have HK4 := az (HK3.out.below_ hb4)
  have HR0 := az hr0
  have HR1 := az hr1
  clear hb4 hr0 hr1 hby hwn HXX HX2 HB2 HT2 HB3 HG6 HX3 HB30 HK3
  have HB5' : Aside0 (Below w4.heap.size w4 (w4.alloc (.cells #[.int .u32 i, .slice A0 n0 d0, .int .u64 q, .int .u64 sx, .slice A1 n1 d1] 74))) := ⟨below_alloc (Below.refl _ _) _⟩
  have HX5 := az (HX4.out.below_ HB5'.out)
  have HB5 := az (below_then HB4.out HB4.out.size HB5'.out)
  cases fd with
  | false =>
   go_wp2_with (refine Wk.store_all rfl rfl 122 (.tmp 4) (.tmp 29) rfl w.heap.size Ps.zt4 rfl rfl 122 _ HX5.out HSK.out rfl rfl ?_; intro wz hX hO; have HXZ := az hX; have HOZ := az hO; clear hX hO)
   refine bodyPost_ret (Wk.res_ct rfl _ w.heap.size 122 _ _ rfl HXZ.out Tryz.underlying122 rfl HSK.out) rfl ?_
   refine ⟨?_, Wk.Only.below HB5.out HOZ.out (Nat.le_refl _)⟩
   rw [Ps.check_none HIS.out (by rw [HTK.out]; have := HFD.out; cases h : Ps.find l ti with | none => rfl | some y => rw [h] at this; cases this)]
   rfl
  | true =>
   have HFS : Aside0 (Ps.check l s = Ps.verdict ⟨i, l0, q, sx, l1⟩ (Ps.got s)) := ⟨Ps.check_some HIS.out (by rw [HTK.out]; exact HFN.out rfl)⟩
   have HYB : Aside0 (Wk.Blk (w4.alloc (.cells #[.int .u32 i, .slice A0 n0 d0, .int .u64 q, .int .u64 sx, .slice A1 n1 d1] 74)) w4.heap.size 74 (Ps.tv i q sx (.slice A0 n0 d0) (.slice A1 n1 d1))) := ⟨Wk.Blk.new w4 _ (Ps.tv i q sx (.slice A0 n0 d0) (.slice A1 n1 d1))⟩
   have HKB := az (HK4.out.below_ HB5'.out)
   have hrun : (Instr.loadAt 122 (.pointer (some ⟨g6, 0, none⟩))).run Tryz.prog (w4.alloc (.cells #[.int .u32 i, .slice A0 n0 d0, .int .u64 q, .int .u64 sx, .slice A1 n1 d1] 74)) = .ok (.agg #[.int .u32 ti, .int .u32 se, .bool ro, .int .u64 sz]) (w4.alloc (.cells #[.int .u32 i, .slice A0 n0 d0, .int .u64 q, .int .u64 sx, .slice A1 n1 d1] 74)) := Wk.run_load_blk (P := Tryz.prog) 122 g6 0 (Ps.tkc (ti, se, ro, sz)) _ HKB.out rfl Tryz.underlying122 rfl HSK.out
   have c1 := HYB.out.at_ 1 rfl
   try simp only at c1
   go_wp2_with (refine Wk.load rfl 122 (.tmp 6) rfl _ (.pointer (some ⟨g6, 0, none⟩)) rfl hrun ?_)
   clear c1 hrun HFN HFD
   generalize w4.alloc (.cells #[.int .u32 i, .slice A0 n0 d0, .int .u64 q, .int .u64 sx, .slice A1 n1 d1] 74) = w5 at *
   obtain ⟨g8, HG8⟩ : ∃ b, Aside0 (w4.heap.size = b) := ⟨_, ⟨rfl⟩⟩
   rw [HG8.out] at HYB ⊢
   have hc05 := (Kd.R_reads' (Kd.R_below HR0.out HB5'.out)).2.2
   have HC15 := az ((Kd.R_reads' (Kd.R_below HR1.out HB5'.out)).2.2)
   obtain ⟨s1, HS1⟩ : ∃ s, Aside0 (Ps.iss l0 (ti, se, ro, sz) = s) := ⟨_, ⟨rfl⟩⟩
   refine (refissue_.calls A0 n0 d0 l0 ti se ro sz w5 hc05 HN0.out hc0 HBY.out (by omega) HTW.out).mono ?_
   rintro e w6 ⟨rfl, hb6⟩
   rw [HS1.out]
   have HB6 := az (below_then HB5.out HB5.out.size hb6)
   have HX6 := az (HX5.out.below_ hb6)
   have HK6 := az (HKB.out.below_ hb6)
   have HY6 := az (HYB.out.below_ hb6)
   have HC16 := az (Kd.C_below HC15.out hb6)
   clear hb6 hc05 HC15 HB5 HX5 HKB HYB HB5' HX4 HK4 HB4 HR0 HR1 HG8
   have HSE : Aside0 (s1 = s ↔ Sh.hm l0 ((Ps.got s).take 18) = (Ps.got s).drop 18) := ⟨by
    have := Ps.same_iss l0 s HIS.out
    rwa [HTK.out, HS1.out] at this⟩
   by_cases hse : s1 = s
   ·subst hse
    have HV1 : Aside0 (Ps.check l s1 = if se ∈ l1 then (Ps.zt, 53) else if sz = 0 ∨ sz > sx then (Ps.zt, 54) else ((ti, se, ro, sz), 0)) := ⟨by
     rw [HFS.out, Ps.verdict, if_neg (fun h => h (HSE.out.1 rfl)), HTK.out]⟩
    clear HSE HFS HS1
    go_wp2_with fail
    have H0 : Aside0 (decide (se ∈ l1.take 0) = false) := ⟨by simp⟩
    go_loopw [10] (fun v10 wr => ∃ k : Nat, v10 = .int .i64 k ∧ k ≤ n1 ∧ Aside0 (decide (se ∈ l1.take k) = false) ∧ Aside0 (Below w6.heap.size w6 wr)) (fun v _ => n1 - (intOf v).toNat)
    case atStart => exact ⟨0, rfl, Nat.zero_le _, H0, ⟨Below.refl _ _⟩⟩
    case round =>
     obtain ⟨k, rfl, hk, HRV, HBR⟩ := hrel
     have HXR := az (HX6.out.below_ HBR.out)
     have HKR := az (HK6.out.below_ HBR.out)
     have HYR := az (HY6.out.below_ HBR.out)
     have HB6R := az (below_then HB6.out HB6.out.size HBR.out)
     by_cases hlt : k < n1
     ·have hltI : (k : Int) < n1 := by omega
      have hki : k < l1.length := by rw [HN1.out]; exact hlt
      have HTK1 := az (List.take_succ_eq_append_getElem hki)
      obtain ⟨y, HYK⟩ : ∃ y, Aside0 (l1[k] = y) := ⟨_, ⟨rfl⟩⟩
      have HYM : Aside0 (y ∈ l1) := ⟨by rw [← HYK.out]; exact List.getElem_mem hki⟩
      obtain ⟨ad, HAD, HCE⟩ : ∃ ad, Aside0 (A1 = some ad) ∧ Aside0 (wr.cell? (ad.add k) = some (.int .u32 y)) := by
       obtain ⟨ad, e, hx⟩ := Kd.at_int (Kd.C_below HC16.out HBR.out) (k : Int) (by omega) (by rw [HN1.out]; exact hltI)
       rw [Int.toNat_natCast, (Ps.rd_drop l1 k hki).1, HYK.out] at hx
       exact ⟨ad, ⟨e⟩, ⟨hx⟩⟩
      rw [HYK.out] at HTK1
      obtain rfl := HAD.out
      clear HYK hki HAD
      have HLT := az (World.block_lt_of_cell? _ _ HCE.out)
      have c4 := HYR.out.at_ 4 rfl
      try simp only [Ps.tv] at c4
      go_wp2_with fail
      refine wp_region_noPanic ?_
      refine Rg.s1 8 (fun w' => Below wr.heap.size wr w') [] (Below.refl _ _).drew #[false, false, false, false, false, false, false, false] (fun hHeld => ?_)
      refine Rg.p1 0 (.some 44) ?_
      refine Rg.t1 1 (.some 45) hHeld ?_ (hy := by intro w' hS'; (have c1 := (HYR.out.below_ hS').at_ 4 rfl; go_simp); first | done | with_reducible rfl)
      refine Rg.p1 2 (.some 46) ?_
      refine Rg.p1 3 (.some 47) ?_
      refine Rg.t1 4 (.some 48) hHeld ?_ (hy := by intro w' hS'; (have c1 := (hS'.cell HLT.out).trans HCE.out; go_simp); first | done | with_reducible rfl)
      refine Rg.p1 5 (.some 49) ?_
      refine Rg.t1 6 (.some 50) hHeld ?_ (hy := by intro w' hS'; (have c1 := (HKR.out.below_ hS').at_ 1 rfl; go_simp); first | done | with_reducible rfl)
      refine Rg.p1 7 (.some 51) ?_
      refine Rg.d1 ?_
      refine NoPanic.normal ?_
      have HXD := az (HXR.out.below_ (Below.refl _ wr).drew)
      have HBD := az (below_then HB6R.out HB6R.out.size (Below.refl _ wr).drew)
      by_cases hy : y = se
      ·have hyb : (y == se) = true := by simpa using hy
       go_wp2_with (refine Wk.store_all rfl rfl 122 (.tmp 4) (.tmp 52) rfl w.heap.size Ps.zt4 rfl rfl 122 _ HXD.out HSK.out rfl rfl ?_; intro wz hX hO; have HXZ := az hX; have HOZ := az hO; clear hX hO)
       refine bodyPost_ret (Wk.res_ct rfl _ w.heap.size 122 _ _ rfl HXZ.out Tryz.underlying122 rfl HSK.out) rfl ?_
       refine ⟨?_, Wk.Only.below HBD.out HOZ.out (Nat.le_refl _)⟩
       rw [HV1.out, if_pos (by rw [← hy]; exact HYM.out)]
       rfl
      ·have hyb : (y == se) = false := by simpa using hy
       go_wp2_with fail
       refine ⟨⟨k + 1, by simp, by omega, ⟨?_⟩, ⟨HBR.out.drew⟩⟩, by simp [intOf]; omega⟩
       rw [HTK1.out, decide_eq_false_iff_not, List.mem_append, List.mem_singleton]
       exact fun h => h.elim (of_decide_eq_false HRV.out) (fun h => hy h.symm)
     ·obtain rfl : k = n1 := by omega
      have HRF : Aside0 (¬ se ∈ l1) := ⟨by have := of_decide_eq_false HRV.out; rwa [List.take_of_length_le (by rw [HN1.out]; exact Nat.le_refl _)] at this⟩
      have HV3 : Aside0 (Ps.check l s1 = if sz = 0 ∨ sz > sx then (Ps.zt, 54) else ((ti, se, ro, sz), 0)) := ⟨by rw [HV1.out, if_neg HRF.out]⟩
      have c3 := HKR.out.at_ 3 rfl
      have c4 := HYR.out.at_ 3 rfl
      have c5 := HYR.out.at_ 4 rfl
      try simp only [Ps.tkc, Ps.tv] at c3 c4 c5
      clear HV1 HRV H0
      by_cases hz : sz = 0
      ·have hzb : (sz == 0) = true := by simpa using hz
       go_wp2_with (refine Wk.store_all rfl rfl 122 (.tmp 4) (.tmp 63) rfl w.heap.size Ps.zt4 rfl rfl 122 _ HXR.out HSK.out rfl rfl ?_; intro wz hX hO; have HXZ := az hX; have HOZ := az hO; clear hX hO)
       refine bodyPost_ret (Wk.res_ct rfl _ w.heap.size 122 _ _ rfl HXZ.out Tryz.underlying122 rfl HSK.out) rfl ?_
       refine ⟨?_, Wk.Only.below HB6R.out HOZ.out (Nat.le_refl _)⟩
       rw [HV3.out, if_pos (.inl hz)]
       rfl
      ·have hzb : (sz == 0) = false := by simpa using hz
       by_cases hx : sz > sx
       ·have hxb : sx < sz := hx
        go_wp2_with (refine Wk.store_all rfl rfl 122 (.tmp 4) (.tmp 63) rfl w.heap.size Ps.zt4 rfl rfl 122 _ HXR.out HSK.out rfl rfl ?_; intro wz hX hO; have HXZ := az hX; have HOZ := az hO; clear hX hO)
        refine bodyPost_ret (Wk.res_ct rfl _ w.heap.size 122 _ _ rfl HXZ.out Tryz.underlying122 rfl HSK.out) rfl ?_
        refine ⟨?_, Wk.Only.below HB6R.out HOZ.out (Nat.le_refl _)⟩
        rw [HV3.out, if_pos (.inr hx)]
        rfl
       ·have hrun : (Instr.loadAt 122 (.pointer (some ⟨g6, 0, none⟩))).run Tryz.prog wr = .ok (.agg (Ps.tkc (ti, se, ro, sz)).toArray) wr := Wk.run_load_blk (P := Tryz.prog) 122 g6 0 (Ps.tkc (ti, se, ro, sz)) _ HKR.out rfl Tryz.underlying122 rfl HSK.out
        go_wp2_with (first
         | refine Wk.load rfl 122 (.tmp 6) rfl _ (.pointer (some ⟨g6, 0, none⟩)) rfl hrun ?_
         | (refine Wk.store_all rfl rfl 122 (.tmp 4) (.tmp 64) rfl w.heap.size (Ps.tkc (ti, se, ro, sz)) rfl rfl 122 _ HXR.out HSK.out rfl rfl ?_; intro wz hX hO; have HXZ := az hX; have HOZ := az hO; clear hX hO))
        refine bodyPost_ret (Wk.res_ct rfl _ w.heap.size 122 _ _ rfl HXZ.out Tryz.underlying122 rfl HSK.out) rfl ?_
        refine ⟨?_, Wk.Only.below HB6R.out HOZ.out (Nat.le_refl _)⟩
        rw [HV3.out, if_neg (fun h => h.elim hz (fun h => by omega))]
        rfl
   ·have hsb : (s1.toList == s.toList) = false := Ps.str_ne hse
    go_wp2_with (refine Wk.store_all rfl rfl 122 (.tmp 4) (.tmp 36) rfl w.heap.size Ps.zt4 rfl rfl 122 _ HX6.out HSK.out rfl rfl ?_; intro wz hX hO; have HXZ := az hX; have HOZ := az hO; clear hX hO)
    refine bodyPost_ret (Wk.res_ct rfl _ w.heap.size 122 _ _ rfl HXZ.out Tryz.underlying122 rfl HSK.out) rfl ?_
    refine ⟨?_, Wk.Only.below HB6.out HOZ.out (Nat.le_refl _)⟩
    rw [HFS.out, Ps.verdict, if_pos (fun h => hse (HSE.out.2 h))]
    rfl
 ·obtain ⟨h1, rfl⟩ : (((ti, se, ro, sz) : Ps.Tk) = Ps.zt) ∧ er = 50 := by
   have := HLK.out
   unfold Ps.look at this
   rw [if_neg hi] at this
   exact ⟨(congrArg Prod.fst this).symm, (congrArg Prod.snd this).symm⟩
  have HX3 := az (HX2.out.below_ HB3.out)
  have HB30 := az (below_then HB2.out HB2.out.size HB3.out)
  clear h1
  go_wp2_with (refine Wk.store_all rfl rfl 122 (.tmp 4) (.tmp 18) rfl w.heap.size Ps.zt4 rfl rfl 122 _ HX3.out HSK.out rfl rfl ?_; intro wz hX hO; have HXZ := az hX; have HOZ := az hO; clear hX hO)
  refine bodyPost_ret (Wk.res_ct rfl _ w.heap.size 122 _ _ rfl HXZ.out Tryz.underlying122 rfl HSK.out) rfl ?_
  refine ⟨?_, Wk.Only.below HB30.out HOZ.out (Nat.le_refl _)⟩
  rw [Ps.check_form hi]
  rfl
end Go.Proofs.YtgljicdpcapgnaaGreatDoor
