/- What the law's proof stands on, part 7: ConnDo, ConnL6 (laid together by wip/pack.py). -/
import Derived.Test.YtgljicdpcapgnaaGreatDoorXDP6
set_option linter.unusedVariables false
set_option linter.unusedSimpArgs false
set_option maxRecDepth 100000
set_option maxHeartbeats 8000000
namespace Go.Proofs.YtgljicdpcapgnaaGreatDoor
open Go.RowKit Go.Proofs.YtgljicdpcapgnaaGreatDoor.PBase Go.Proofs.YtgljicdpcapgnaaGreatDoorW.PrintWords Go.Proofs.YtgljicdpcapgnaaGreatDoorW.PrintLast Go.Proofs.YtgljicdpcapgnaaGreatDoorW.PrintMore
theorem Wk.load_gd {P : Program} {ops : Array Oper} {o : Oper} {rest : List Oper} {a : Act} {w : World} {Q : Exit → Act → World → Prop} (hw : Region.wanted o (yielded ops a.tmps) = true) (t : TypeId) (p : Operand) (ho : o.op = .load t p) (v pv : Value) (hp : a.eval p = pv) (hrun : (Instr.loadAt t pv).run P w = .ok v w)
    (h : wpList P ops Q rest (a.put o.dst v) w) : wpList P ops Q (o :: rest) a w := by
  unfold wpList
  rw [if_pos hw]
  exact .inl (wp_load t p ho v pv hp hrun h)
namespace Cn
def tk (rs : List Rq) (k : Int) : Bool × Rq := if 0 ≤ k then (match rs[k.toNat]? with | some r => (true, r) | none => (false, (0, 0, 0, 0, 0, []))) else (false, (0, 0, 0, 0, 0, []))
theorem TkPost.tk {rs : List Rq} {D : Nat → Prop} {k : Int} {e : Ending} {w' : World} (h : TkPost rs D k e w') : ∃ A c, e = .returned (.tuple #[.agg (Pi.rqc (Cn.tk rs k).2.1 (Cn.tk rs k).2.2.1 (Cn.tk rs k).2.2.2.1 (Cn.tk rs k).2.2.2.2.1 (Cn.tk rs k).2.2.2.2.2.1 (.slice A (Cn.tk rs k).2.2.2.2.2.2.length c)).toArray, .bool (Cn.tk rs k).1]) ∧ Kd.R (Kd.int .u8) 5 w' 0 D (.slice A (Cn.tk rs k).2.2.2.2.2.2.length c) (Cn.tk rs k).2.2.2.2.2.2 := by
  rcases h with ⟨h, rfl⟩ | ⟨r, v, ⟨h0, h1⟩, rfl, hR⟩
  · have e : Cn.tk rs k = (false, (0, 0, 0, 0, 0, [])) := by
      unfold Cn.tk
      by_cases h0 : 0 ≤ k
      · rw [if_pos h0, List.getElem?_eq_none (by omega)]
      · rw [if_neg h0]
    rw [e]
    exact ⟨none, 0, rfl, Kd.R_nil _ _ _ _ _⟩
  · have e : Cn.tk rs k = (true, r) := by unfold Cn.tk; rw [if_pos h0, h1]
    obtain ⟨A, c, rfl⟩ := Kd.R_slice hR
    rw [e]
    exact ⟨A, c, rfl, hR⟩
theorem doOp_5 (l : List Ps.Tn) (c : St) (o : Co) (h : o.1 % 8 = 5) : doOp l c o = if (tk c.rs o.2.2.1).1 = true then answered (take l c o.2.2.1) (tk c.rs o.2.2.1).2 o.2.2.2 o.2.1 else take l c o.2.2.1 := by
  unfold doOp tk
  rw [if_pos h]
  by_cases h0 : 0 ≤ o.2.2.1
  · rw [if_pos h0, if_pos h0]
    cases c.rs[o.2.2.1.toNat]? with
    | none => rfl
    | some r => rfl
  · rw [if_neg h0, if_neg h0]
    rfl
end Cn
theorem does_.calls {W w0 : World} {p tb bs q tr br : Nat} {c : Cn.St} {l : List Ps.Tn} (h : Cn.BoE W w0.heap.size p tb q tr c c) (hX : Cn.Ctx w0 tb bs l) (hR : Cn.RCtx w0 tr br l) (hBW : Below w0.heap.size w0 W) (hc : Cn.Ok c) (hs : c.send.length ≤ 6000000000000) {kd k a : Int} {b : List Int} {A : Option Addr} {n cp : Nat} (hkd : 0 ≤ kd ∧ kd ≤ 255) (ha : 0 ≤ a ∧ a < 4294967296) (hA : Kd.C (Kd.int .u8) w0 A b.length b) (hn : b.length = n) (hcp : n ≤ cp) (hby : Sh.Bytes b) (hl : n ≤ 3000) :
  Calls Tryz.prog 10 #[.pointer (some ⟨p, 0, none⟩), .pointer (some ⟨q, 0, none⟩), .agg #[.int .u8 kd, .slice A n cp, .int .i64 k, .int .u32 a]] W fun e w' => e = .returned (.bool true) ∧ Cn.BoE w' w0.heap.size p tb q tr (Cn.doOp l c (kd, b, k, a)) (Cn.doOp l c (kd, b, k, a)) ∧ Below w0.heap.size w0 w' := by
 obtain ⟨N, oc, xc, od, xd, hb⟩ := h
 have HX := az hX
 have HRX := az hR
 have HO := az hc
 have HS := az hs
 have HA := az ha
 have HCB : Aside0 (∀ w', Below w0.heap.size w0 w' → Kd.C (Kd.int .u8) w' A n b) := ⟨fun w' hb => by have := Kd.C_below hA hb; rwa [hn] at this⟩
 have HN := az (And.intro hn (And.intro hcp hl))
 have HBY := az hby
 have HSO := az Cn.sizeCo
 have HSR := az Pi.size33
 have HB1 : Aside0 (Below W.heap.size W (W.alloc (.cells #[.int .u8 kd, .slice A n cp, .int .i64 k, .int .u32 a] 38))) := ⟨below_alloc (Below.refl _ _) _⟩
 have HX1 : Aside0 (Wk.Blk (W.alloc (.cells #[.int .u8 kd, .slice A n cp, .int .i64 k, .int .u32 a] 38)) W.heap.size 38 [.int .u8 kd, .slice A n cp, .int .i64 k, .int .u32 a]) := ⟨Wk.Blk.new W _ [.int .u8 kd, .slice A n cp, .int .i64 k, .int .u32 a]⟩
 have HBO := az (hb.below HB1.out)
 have HNW : Aside0 (N ≤ W.heap.size) := ⟨hb.nw⟩
 have HB0 : Aside0 (Below w0.heap.size w0 (W.alloc (.cells #[.int .u8 kd, .slice A n cp, .int .i64 k, .int .u32 a] 38))) := ⟨below_then hBW hBW.size HB1.out⟩
 obtain ⟨m, HM⟩ : ∃ m, Aside0 (kd % 8 = m) := ⟨_, ⟨rfl⟩⟩
 have hm : Int.tmod kd 8 = m := by rw [Int.tmod_eq_emod_of_nonneg hkd.1, HM.out]
 have c0 := HX1.out.at_ 0 rfl
 have c1 := HX1.out.at_ 1 rfl
 have c2 := HX1.out.at_ 2 rfl
 clear hX hR hc hs hA hn hcp hby hl hb ha hkd
 go_enter Tryz.func10, Tryz.ntmps10
 by_cases h5 : m = 5
 ·subst h5
  go_wp2_with fail
  clear c0 c1 c2 hm
  obtain ⟨g5, HG5⟩ : ∃ g, Aside0 (W.heap.size = g) := ⟨_, ⟨rfl⟩⟩
  generalize W.alloc (.cells #[.int .u8 kd, .slice A n cp, .int .i64 k, .int .u32 a] 38) = w1 at *
  rw [HG5.out] at HX1 HNW ⊢
  have HG1 : Aside0 (g5 < w1.heap.size) := ⟨HX1.out.lt⟩
  have HNG : Aside0 (¬ Cn.oL w1 oc g5 ∧ ¬ Cn.oL w1 od g5) := ⟨fun hh => hh.elim (fun hh => by have := HBO.out.lt g5 (.inl (.inl hh)); have := HNW.out; omega) (fun hh => by have := HG1.out; omega), fun hh => hh.elim (fun hh => by have := HBO.out.lt g5 (.inr (.inl hh)); have := HNW.out; omega) (fun hh => by have := HG1.out; omega)⟩
  refine (takec_.calls HX.out HBO.out.left Cn.oL_new HO.out HB0.out (HBO.out.okL HB0.out.size) (by have := HS.out; omega) k).mono ?_
  rintro e w2 ⟨hp2, hc2, hf2⟩
  obtain ⟨A2, cx2, rfl, hd2⟩ := hp2.tk
  obtain ⟨is, ⟨x1, x2, x3, x4, x5, data⟩, HTK⟩ : ∃ is r, Aside0 (Cn.tk c.rs k = (is, r)) := ⟨_, _, ⟨rfl⟩⟩
  simp only [HTK.out] at hd2 ⊢
  obtain ⟨nd, HND⟩ : ∃ n, Aside0 (data.length = n) := ⟨_, ⟨rfl⟩⟩
  simp only [HND.out] at hd2 ⊢
  have HB2 := az (hf2.below HB0.out HB0.out.size (HBO.out.okL HB0.out.size))
  have HBO2 := az (HBO.out.goL HB0.out.size hc2 hf2)
  have HD2 := az (Kd.R_bound hd2)
  have HX2 := az (Cn.Blk_frame HX1.out hf2 HNG.out.1)
  have HSZ2 : Aside0 (w1.heap.size ≤ w2.heap.size) := ⟨hf2.size⟩
  have HB3 := az (below_alloc (Below.refl w2.heap.size w2) (.cells Pi.zrq.toArray 67))
  have HY3 : Aside0 (Wk.Blk (w2.alloc (.cells Pi.zrq.toArray 67)) w2.heap.size 67 Pi.zrq) := ⟨Wk.Blk.new w2 _ _⟩
  clear hp2 hc2 hf2 hd2
  have c2 := (HX2.out.below_ HB3.out).at_ 2 rfl
  change (w2.alloc (.cells #[.int .u16 0, .int .u16 0, .int .u64 0, .int .u64 0, .int .u32 0, .slice none 0 0] 67)).cell? _ = _ at c2
  go_wp2_with (refine Wk.store_all rfl rfl 67 (.tmp 7) (.tmp 29) rfl w2.heap.size (Pi.rqc x1 x2 x3 x4 x5 (.slice A2 nd cx2)) rfl rfl 67 _ HY3.out HSR.out rfl rfl ?_; intro w3 hX hO; have HY4 := az hX; have HB4 := az (Wk.Only.below HB3.out hO (Nat.le_refl _)); have c2' := (HX2.out.below_ HB4.out).at_ 2 rfl; clear hX hO c2)
  clear c2'
  obtain ⟨g7, HG7⟩ : ∃ g, Aside0 (w2.heap.size = g) := ⟨_, ⟨rfl⟩⟩
  rw [HG7.out] at HY4 ⊢
  have HG3 : Aside0 (g7 < w3.heap.size) := ⟨HY4.out.lt⟩
  have HBO3 := az (HBO2.out.below HB4.out)
  have HD3 := az (Kd.R_below HD2.out HB4.out)
  have HX3 := az (HX2.out.below_ HB4.out)
  have HB5 := az (below_then HB2.out HB2.out.size HB4.out)
  have HNG3 : Aside0 (¬ Cn.oL w3 od g5 ∧ ¬ Cn.oL w3 od g7 ∧ (∀ j, ((Cn.oL w1 oc j ∨ xc j) ∧ 0 ≤ j ∧ j < w2.heap.size ∧ ∃ q', q' ∈ 5 :: (Kd.int .u8).E ∧ ∃ cells, w2.heap[j]? = some (.cells cells q' (0, 0))) → ¬ Cn.oL w3 od j)) := ⟨by
   have h1 := HBO3.out
   have h2 := HG7.out
   have h3 := HG3.out
   have h4 := HSZ2.out
   have h5 := HG1.out
   have h6 := HB4.out.size
   refine ⟨fun hh => hh.elim (fun hh => HNG.out.2 (.inl hh)) (fun hh => by omega), fun hh => hh.elim (fun hh => by have := h1.lt g7 (.inr (.inl hh)); omega) (fun hh => by omega), fun j hj hh => hh.elim (fun hh => h1.a2 j hh (hj.1.imp (fun h => ⟨h, by have := hj.2.2.1; omega⟩) id)) (fun hh => by have := hj.2.2.1; omega)⟩⟩
  clear HBO2 HD2 HX2 HB3 HY3 HB4 HB2
  refine (rtakec_.calls HRX.out HBO3.out.right Cn.oL_new HO.out HB5.out (HBO3.out.okR HB5.out.size) (by have := HS.out; omega) k).mono ?_
  rintro e w4 ⟨hp4, hc4, hf4⟩
  obtain ⟨A4, cx4, rfl, hd4⟩ := hp4.tk
  simp only [HTK.out, HND.out] at hd4 ⊢
  have HB6 := az (hf4.below HB5.out HB5.out.size (HBO3.out.okR HB5.out.size))
  have HBO4 := az (HBO3.out.goR HB5.out.size hc4 hf4)
  have HD4 := az hd4
  have HX4 := az (Cn.Blk_frame HX3.out hf4 HNG3.out.1)
  have HY5 := az (Cn.Blk_frame HY4.out hf4 HNG3.out.2.1)
  have HD5 := az (Cn.R_frame HD3.out hf4 HNG3.out.2.2)
  have HSZ4 : Aside0 (w3.heap.size ≤ w4.heap.size) := ⟨hf4.size⟩
  have HB7 := az (below_alloc (Below.refl w4.heap.size w4) (.cells Pi.zrq.toArray 67))
  have HZ7 : Aside0 (Wk.Blk (w4.alloc (.cells Pi.zrq.toArray 67)) w4.heap.size 67 Pi.zrq) := ⟨Wk.Blk.new w4 _ _⟩
  have hnn : (is != is) = false := by cases is <;> rfl
  clear hp4 hc4 hf4 hd4 HNG3
  go_wp2_with (first
   | (refine Wk.store_all rfl rfl 67 (.tmp 9) (.tmp 36) rfl w4.heap.size (Pi.rqc x1 x2 x3 x4 x5 (.slice A4 nd cx4)) rfl rfl 67 _ HZ7.out HSR.out rfl rfl ?_; intro w5 hX hO; have HZ8 := az hX; have HB8 := az (Wk.Only.below HB7.out hO (Nat.le_refl _)); have HY8 := az (HY5.out.below_ HB8.out); clear hX hO)
   | refine Wk.load_gd (by rfl) 67 (.tmp 7) rfl (.agg (Pi.rqc x1 x2 x3 x4 x5 (.slice A2 nd cx2)).toArray) (.pointer (some ⟨g7, 0, none⟩)) rfl (Wk.run_load_blk (P := Tryz.prog) 67 g7 0 _ _ HY8.out rfl Tryz.underlying67 rfl HSR.out) ?_
   | refine Wk.load_gd (by rfl) 67 (.tmp 9) rfl (.agg (Pi.rqc x1 x2 x3 x4 x5 (.slice A4 nd cx4)).toArray) (.pointer (some ⟨w4.heap.size, 0, none⟩)) rfl (Wk.run_load_blk (P := Tryz.prog) 67 w4.heap.size 0 _ _ HZ8.out rfl Tryz.underlying67 rfl HSR.out) ?_)
  clear hnn
  obtain ⟨g9, HG9⟩ : ∃ g, Aside0 (w4.heap.size = g) := ⟨_, ⟨rfl⟩⟩
  rw [HG9.out] at HZ8 ⊢
  have HD8 := az (Kd.R_below HD5.out HB8.out)
  have HE8 := az (Kd.R_below HD4.out HB8.out)
  have HX8 := az (HX4.out.below_ HB8.out)
  have HBO8 := az (HBO4.out.below HB8.out)
  have HB9 := az (below_then HB6.out HB6.out.size HB8.out)
  have HK1 : Aside0 (kRq.K w5 (x1, x2, x3, x4, x5, data) (Pi.rqc x1 x2 x3 x4 x5 (.slice A2 nd cx2)) ∧ kRq.K w5 (x1, x2, x3, x4, x5, data) (Pi.rqc x1 x2 x3 x4 x5 (.slice A4 nd cx4))) := ⟨Pi.K_of_R HD8.out, Pi.K_of_R HE8.out⟩
  clear HB7 HZ7 HBO4 HX4 HY5 HD5 HD4 HB8 HD8 HE8
  refine (psame_.calls HK1.out.1 HK1.out.2).mono ?_
  rintro e w6 ⟨rfl, hb6⟩
  have HX9 := az (HX8.out.below_ hb6)
  have HY9 := az (HY8.out.below_ hb6)
  have HZ9 := az (HZ8.out.below_ hb6)
  have HBO9 := az (HBO8.out.below hb6)
  have HB10 := az (below_then HB9.out HB9.out.size hb6)
  have HSZ6 : Aside0 (w4.heap.size < w6.heap.size) := ⟨by have := HZ9.out.lt; have := HG9.out; omega⟩
  clear HX8 HY8 HZ8 HBO8 HB9 HK1 hb6
  have HDO := az (Cn.doOp_5 l c (kd, b, k, a) HM.out)
  rw [show ((kd, b, k, a) : Cn.Co).2.2.1 = k from rfl, HTK.out] at HDO
  cases is with
  | false =>
   go_wp2_with fail
   go_ret
   refine ⟨rfl, ?_, HB10.out⟩
   rw [HDO.out]
   exact ⟨_, _, _, _, _, HBO9.out⟩
  | true =>
   obtain ⟨ct, HCT⟩ : ∃ ct, Aside0 (Cn.take l c k = ct) := ⟨_, ⟨rfl⟩⟩
   have HTO := az (Cn.take_ok l c k HO.out)
   rw [HCT.out] at HTO HDO HBO9
   have c1 := HX9.out.at_ 1 rfl
   have c3 := HX9.out.at_ 3 rfl
   go_wp2_with (refine Wk.load rfl 67 (.tmp 7) rfl (.agg (Pi.rqc x1 x2 x3 x4 x5 (.slice A2 nd cx2)).toArray) (.pointer (some ⟨g7, 0, none⟩)) rfl (Wk.run_load_blk (P := Tryz.prog) 67 g7 0 _ _ HY9.out rfl Tryz.underlying67 rfl HSR.out) ?_)
   clear c1 c3
   refine (answerc_.calls HBO9.out.left Cn.oL_new (x1, x2, x3, x4, x5, data) (.slice A2 nd cx2) HA.out (by have := HCB.out w6 HB10.out; rw [← HN.out.1] at this; exact this) HN.out.1 HN.out.2.1 (by have := HN.out.2.2; omega) (by have := HTO.out.2; have := HS.out; omega)).mono ?_
   rintro e w7 ⟨rfl, hc7, hf7⟩
   have HNG9 : Aside0 (¬ Cn.oL w6 (fun k => Cn.oL w1 oc k ∧ k < w2.heap.size) g5 ∧ ¬ Cn.oL w6 (fun k => Cn.oL w1 oc k ∧ k < w2.heap.size) g9) := ⟨by
    have h1 := HG1.out
    have h2 := HSZ2.out
    have h3 := HG3.out
    have h4 := HSZ4.out
    have h5 := HSZ6.out
    have h6 := HG7.out
    have h7 := HG9.out
    exact ⟨fun hh => hh.elim (fun hh => HNG.out.1 hh.1) (fun hh => by omega), fun hh => hh.elim (fun hh => by have := hh.2; omega) (fun hh => by omega)⟩⟩
   have HX10 := az (Cn.Blk_frame HX9.out hf7 HNG9.out.1)
   have HZ10 := az (Cn.Blk_frame HZ9.out hf7 HNG9.out.2)
   have HB11 := az (hf7.below HB10.out HB10.out.size (HBO9.out.okL HB10.out.size))
   have HBO10 := az (HBO9.out.goL HB10.out.size hc7 hf7)
   clear hc7 hf7 HX9 HY9 HZ9 HNG9 HBO9
   have c1 := HX10.out.at_ 1 rfl
   have c3 := HX10.out.at_ 3 rfl
   go_wp2_with (refine Wk.load rfl 67 (.tmp 9) rfl (.agg (Pi.rqc x1 x2 x3 x4 x5 (.slice A4 nd cx4)).toArray) (.pointer (some ⟨g9, 0, none⟩)) rfl (Wk.run_load_blk (P := Tryz.prog) 67 g9 0 _ _ HZ10.out rfl Tryz.underlying67 rfl HSR.out) ?_)
   clear c1 c3
   refine (ranswerc_.calls HBO10.out.right Cn.oL_new (x1, x2, x3, x4, x5, data) (.slice A4 nd cx4) HA.out (by have := HCB.out w7 HB11.out; rw [← HN.out.1] at this; exact this) HN.out.1 HN.out.2.1 (by have := HN.out.2.2; omega) (by have := HTO.out.2; have := HS.out; omega)).mono ?_
   rintro e w8 ⟨rfl, hc8, hf8⟩
   have HB12 := az (hf8.below HB11.out HB11.out.size (HBO10.out.okR HB11.out.size))
   have HBO11 := az (HBO10.out.goR HB11.out.size hc8 hf8)
   clear hc8 hf8 HX10 HZ10 HBO10
   go_wp2_with fail
   go_ret
   refine ⟨rfl, ?_, HB12.out⟩
   rw [HDO.out]
   exact ⟨_, _, _, _, _, HBO11.out⟩
 have e5 : (m == 5) = false := by simpa using h5
 have H5 := az h5
 clear h5
 by_cases h6 : m = 6
 ·subst h6
  go_wp2_with fail
  clear c0 c1 c2 hm
  obtain ⟨g5, HG5⟩ : ∃ g, Aside0 (W.heap.size = g) := ⟨_, ⟨rfl⟩⟩
  generalize W.alloc (.cells #[.int .u8 kd, .slice A n cp, .int .i64 k, .int .u32 a] 38) = w1 at *
  rw [HG5.out] at HX1 HNW ⊢
  have HG1 : Aside0 (g5 < w1.heap.size) := ⟨HX1.out.lt⟩
  have HNG : Aside0 (¬ Cn.oL w1 oc g5 ∧ ¬ Cn.oL w1 od g5) := ⟨fun hh => hh.elim (fun hh => by have := HBO.out.lt g5 (.inl (.inl hh)); have := HNW.out; omega) (fun hh => by have := HG1.out; omega), fun hh => hh.elim (fun hh => by have := HBO.out.lt g5 (.inr (.inl hh)); have := HNW.out; omega) (fun hh => by have := HG1.out; omega)⟩
  clear e5
  refine (out_.calls HBO.out.left).mono ?_
  rintro e w2 ⟨A2, n2, rfl, hr2, hc2, hf2⟩
  obtain ⟨nd, HND⟩ : ∃ n, Aside0 (c.send.length = n) := ⟨_, ⟨rfl⟩⟩
  rw [HND.out] at hr2 ⊢
  have HB2 := az (hf2.below HB0.out HB0.out.size (HBO.out.okL HB0.out.size))
  have HBO2 := az (HBO.out.goL HB0.out.size hc2 hf2)
  have HD2 := az (Kd.R_bound hr2)
  have HNG3 : Aside0 (∀ j, (Cn.oL w1 oc j ∧ 0 ≤ j ∧ j < w2.heap.size ∧ ∃ q', q' ∈ 5 :: (Kd.int .u8).E ∧ ∃ cells, w2.heap[j]? = some (.cells cells q' (0, 0))) → ¬ Cn.oL w2 od j) := ⟨fun j hj hh => hh.elim (fun hh => HBO2.out.a2 j hh (.inl ⟨hj.1, hj.2.2.1⟩)) (fun hh => by have := hj.2.2.1; omega)⟩
  clear hr2 hc2 hf2 HX1 HBO
  go_wp2_with fail
  refine (rout_.calls HBO2.out.right).mono ?_
  rintro e w3 ⟨A3, n3, rfl, hr3, hc3, hf3⟩
  rw [HND.out] at hr3 ⊢
  have HB3 := az (hf3.below HB2.out HB2.out.size (HBO2.out.okR HB2.out.size))
  have HBO3 := az (HBO2.out.goR HB2.out.size hc3 hf3)
  have HD3 := az (Kd.R_reads' (Cn.R_frame HD2.out hf3 HNG3.out))
  have HE3 := az (Kd.R_reads' hr3)
  clear hr3 hc3 hf3 HD2 HNG3 HBO2
  go_wp2_with fail
  refine (Cn.sameb_ HD3.out.2.2 HND.out HD3.out.2.1 HE3.out.2.2 HND.out HE3.out.2.1).mono ?_
  rintro e w4 ⟨rfl, hb4⟩
  have HB4 := az (below_then HB3.out HB3.out.size hb4)
  have HBO4 := az (HBO3.out.below hb4)
  clear hb4
  go_wp2_with fail
  go_ret
  refine ⟨rfl, ?_, HB4.out⟩
  have hd : Cn.doOp l c (kd, b, k, a) = Cn.out c := by unfold Cn.doOp; rw [if_neg (by rw [HM.out]; decide), if_pos HM.out]
  rw [hd]
  exact ⟨_, _, _, _, _, HBO4.out⟩
 have e6 : (m == 6) = false := by simpa using h6
 have H6 := az h6
 clear h6
 by_cases h7 : m = 7
 ·subst h7
  by_cases hk : k = 0
  ·have ek : (k == 0) = true := by simpa using hk
   have HK := az hk
   clear hk
   go_wp2_with fail
   clear c0 c1 c2 hm
   obtain ⟨g5, HG5⟩ : ∃ g, Aside0 (W.heap.size = g) := ⟨_, ⟨rfl⟩⟩
   generalize W.alloc (.cells #[.int .u8 kd, .slice A n cp, .int .i64 k, .int .u32 a] 38) = w1 at *
   rw [HG5.out] at HX1 HNW ⊢
   have HG1 : Aside0 (g5 < w1.heap.size) := ⟨HX1.out.lt⟩
   have HNG : Aside0 (¬ Cn.oL w1 oc g5 ∧ ¬ Cn.oL w1 od g5) := ⟨fun hh => hh.elim (fun hh => by have := HBO.out.lt g5 (.inl (.inl hh)); have := HNW.out; omega) (fun hh => by have := HG1.out; omega), fun hh => hh.elim (fun hh => by have := HBO.out.lt g5 (.inr (.inl hh)); have := HNW.out; omega) (fun hh => by have := HG1.out; omega)⟩
   clear e5 e6 ek
   refine (close_.calls HBO.out.left).mono ?_
   rintro e w2 ⟨rfl, hc2, hf2⟩
   have HB2 := az (hf2.below HB0.out HB0.out.size (HBO.out.okL HB0.out.size))
   have HBO2 := az (HBO.out.goL HB0.out.size hc2 hf2)
   clear hc2 hf2 HBO
   go_wp2_with fail
   refine (rclose_.calls HBO2.out.right).mono ?_
   rintro e w3 ⟨rfl, hc3, hf3⟩
   have HB3 := az (hf3.below HB2.out HB2.out.size (HBO2.out.okR HB2.out.size))
   have HBO3 := az (HBO2.out.goR HB2.out.size hc3 hf3)
   clear hc3 hf3 HBO2
   go_wp2_with fail
   go_ret
   refine ⟨rfl, ?_, HB3.out⟩
   have hd : Cn.doOp l c (kd, b, k, a) = Cn.close c := by unfold Cn.doOp; rw [if_neg (by rw [HM.out]; decide), if_neg (by rw [HM.out]; decide), if_pos HM.out, if_pos HK.out]
   rw [hd]
   exact ⟨_, _, _, _, _, HBO3.out⟩
  ·have ek : (k == 0) = false := by simpa using hk
   have HK := az hk
   clear hk
   go_wp2_with fail
   clear c0 c1 c2 hm
   obtain ⟨g5, HG5⟩ : ∃ g, Aside0 (W.heap.size = g) := ⟨_, ⟨rfl⟩⟩
   generalize W.alloc (.cells #[.int .u8 kd, .slice A n cp, .int .i64 k, .int .u32 a] 38) = w1 at *
   rw [HG5.out] at HX1 HNW ⊢
   have HG1 : Aside0 (g5 < w1.heap.size) := ⟨HX1.out.lt⟩
   have HNG : Aside0 (¬ Cn.oL w1 oc g5 ∧ ¬ Cn.oL w1 od g5) := ⟨fun hh => hh.elim (fun hh => by have := HBO.out.lt g5 (.inl (.inl hh)); have := HNW.out; omega) (fun hh => by have := HG1.out; omega), fun hh => hh.elim (fun hh => by have := HBO.out.lt g5 (.inr (.inl hh)); have := HNW.out; omega) (fun hh => by have := HG1.out; omega)⟩
   go_ret
   refine ⟨rfl, ?_, HB0.out⟩
   have hd : Cn.doOp l c (kd, b, k, a) = c := by unfold Cn.doOp; rw [if_neg (by rw [HM.out]; decide), if_neg (by rw [HM.out]; decide), if_pos HM.out, if_neg HK.out]
   rw [hd]
   exact ⟨_, _, _, _, _, HBO.out⟩
 have e7 : (m == 7) = false := by simpa using h7
 have H7 := az h7
 clear h7
 go_wp2_with fail
 clear c0 c1 c2 hm
 obtain ⟨g5, HG5⟩ : ∃ g, Aside0 (W.heap.size = g) := ⟨_, ⟨rfl⟩⟩
 generalize W.alloc (.cells #[.int .u8 kd, .slice A n cp, .int .i64 k, .int .u32 a] 38) = w1 at *
 rw [HG5.out] at HX1 HNW ⊢
 have HG1 : Aside0 (g5 < w1.heap.size) := ⟨HX1.out.lt⟩
 have HNG : Aside0 (¬ Cn.oL w1 oc g5 ∧ ¬ Cn.oL w1 od g5) := ⟨fun hh => hh.elim (fun hh => by have := HBO.out.lt g5 (.inl (.inl hh)); have := HNW.out; omega) (fun hh => by have := HG1.out; omega), fun hh => hh.elim (fun hh => by have := HBO.out.lt g5 (.inr (.inl hh)); have := HNW.out; omega) (fun hh => by have := HG1.out; omega)⟩
 clear e5 e6 e7
 refine (feedc_.calls HX.out HBO.out.left Cn.oL_new HO.out HB0.out (HBO.out.okL HB0.out.size) (by have := HS.out; omega) (by have := HCB.out w1 HB0.out; rw [← HN.out.1] at this; exact this) HN.out.1 HN.out.2.1 HBY.out).mono ?_
 rintro e w2 ⟨rfl, hc2, hf2⟩
 have HB2 := az (hf2.below HB0.out HB0.out.size (HBO.out.okL HB0.out.size))
 have HBO2 := az (HBO.out.goL HB0.out.size hc2 hf2)
 have HX2 := az (Cn.Blk_frame HX1.out hf2 HNG.out.1)
 have c1 := HX2.out.at_ 1 rfl
 clear hc2 hf2 HBO
 go_wp2_with fail
 clear c1
 refine (rfeedc_.calls HRX.out HBO2.out.right Cn.oL_new HO.out HB2.out (HBO2.out.okR HB2.out.size) (by have := HS.out; omega) (by have := HCB.out w2 HB2.out; rw [← HN.out.1] at this; exact this) HN.out.1 HN.out.2.1 HBY.out).mono ?_
 rintro e w3 ⟨rfl, hc3, hf3⟩
 have HB3 := az (hf3.below HB2.out HB2.out.size (HBO2.out.okR HB2.out.size))
 have HBO3 := az (HBO2.out.goR HB2.out.size hc3 hf3)
 clear hc3 hf3 HBO2 HX2
 go_wp2_with fail
 go_ret
 refine ⟨rfl, ?_, HB3.out⟩
 have hd : Cn.doOp l c (kd, b, k, a) = Cn.feed l c b := by unfold Cn.doOp; rw [if_neg (by rw [HM.out]; exact H5.out), if_neg (by rw [HM.out]; exact H6.out), if_neg (by rw [HM.out]; exact H7.out)]
 rw [hd]
 exact ⟨_, _, _, _, _, HBO3.out⟩
namespace Cn
def cz : Co := (0, [], 0, 0)
theorem Cn.le16 {W : World} {oc xc : Nat → Prop} {p tb : Nat} {c : St} (h : Cn W oc xc p tb c) : c.rs.length ≤ 16 := by
  obtain ⟨_, _, _, h⟩ := h
  exact h.pipe.le
theorem heavy_ops {W : World} {A : Option Addr} {n : Nat} {os : List Co} (h : kCo.C W A os.length os) (hn : os.length = n) : 0 < n → ∃ ad, A = some ad ∧ ∀ i : Nat, i < n → ∃ A' c, W.cell? ⟨(ad.add (i * 4)).block, (ad.add (i * 4)).off + 1, none⟩ = some (.slice A' ((fun i => (os.getD i cz).2.1.length) i) c) := by
  intro hp
  obtain ⟨ad, _, _, rfl, _⟩ := co_get h 0 (by omega) rfl
  refine ⟨ad, rfl, fun i hi => ?_⟩
  obtain ⟨ad', A0, c0, e, _, hc, _⟩ := co_get h i (by omega) rfl
  obtain rfl : ad = ad' := Option.some.inj e
  refine ⟨A0, c0, ?_⟩
  rw [hc]
  show _ = some (Value.slice A0 (os.getD i cz).2.1.length c0)
  rw [List.getD_eq_getElem?_getD, List.getElem?_eq_getElem (by omega)]
  rfl
theorem wf_u8 {n : Int} (h : (Lit.int .u8 n).wf = true) : 0 ≤ n ∧ n ≤ 255 := by
  have := Wi.of_wf h
  simp [IntKind.min, IntKind.max, IntKind.bits, IntKind.signed] at this
  omega
end Cn
theorem connDoes_.calls (x0 : List Ps.Tn) (v0 : Value) (x1 : Int) (x2 : List Cn.Co) (v2 : Value) (W : World) (hk : Sh.Ks W) (hK0 : (Kd.slice 74 Ps.kTn).K W x0 [v0]) (hw0 : x0.length ≤ maxLen ∧ ∀ x ∈ x0, Ps.TnIn x) (hw1 : (Lit.int .u16 x1).wf = true) (hK2 : (Kd.slice 38 Cn.kCo).K W x2 [v2]) (hw2 : x2.length ≤ maxLen ∧ ∀ x ∈ x2, Cn.CoIn x) :
  Calls Tryz.prog 4 #[v0, .int .u16 x1, v2] W fun e w' => e = .returned (.bool true) ∧ Below W.heap.size W w' := by
 obtain ⟨A0, c0, he0, hlc, hC⟩ := hK0
 obtain rfl : v0 = .slice A0 x0.length c0 := by simpa using he0
 obtain ⟨A2, c2, he2, hlc2, hC2⟩ := hK2
 obtain rfl : v2 = .slice A2 x2.length c2 := by simpa using he2
 have HK := az hk
 have HC := az hC
 have HC2 := az hC2
 have HI := az hw0.2
 have HI2 := az hw2.2
 have HB16 := az (Wi.of_wf16 hw1)
 obtain ⟨n, HN⟩ : ∃ n, Aside0 (x0.length = n) := ⟨_, ⟨rfl⟩⟩
 obtain ⟨r, HR⟩ : ∃ n, Aside0 (x2.length = n) := ⟨_, ⟨rfl⟩⟩
 rw [HN.out] at hlc ⊢
 rw [HR.out] at hlc2 ⊢
 have HLC := az hlc
 have HHO := az (Cn.heavy_ops hC2 HR.out)
 clear hw0 hC he0 hk hlc hC2 he2 hlc2 hw2 hw1
 go_enter Tryz.func4, Tryz.ntmps4
 go_wp2_with fail
 refine (heavyc_.calls HC.out HN.out HLC.out HHO.out).mono ?_
 rintro e w1 ⟨b, rfl, hb, hb1⟩
 have HB1 := az hb1
 have HLT := az hb
 clear hb hb1 HHO
 cases b with
 | true =>
  go_wp2_with fail
  refine (knownc_.calls _ (HK.out.below HB1.out)).mono ?_
  rintro e w2 ⟨rfl, hb2⟩
  have HB2 := az (below_then HB1.out HB1.out.size hb2)
  clear hb2
  go_wp2_with fail
  go_ret
  exact ⟨rfl, HB2.out⟩
 | false =>
 have HLI := az (HLT.out rfl)
 have HTW := az (Ps.few_wf HLI.out.1 HI.out)
 have HL70 : Aside0 (x0.length ≤ 70) := ⟨(of_decide_eq_true (show decide (x0.length ≤ 70 ∧ ∀ x ∈ x0, x.f1.length ≤ 200 ∧ x.f4.length ≤ 50) = true from HLI.out.1)).1⟩
 clear HLT HI
 go_wp2_with fail
 refine (knownc_.calls _ (HK.out.below HB1.out)).mono ?_
 rintro e w2 ⟨rfl, hb2⟩
 have HB2 := az (below_then HB1.out HB1.out.size hb2)
 clear hb2 HB1
 go_wp2_with fail
 refine (tables2_.calls (Kd.C_below HC.out HB2.out) HN.out HTW.out).mono ?_
 rintro e w3 ⟨hb3, ⟨tb, tr, rfl, ht, hr⟩ | rfl⟩
 rotate_left
 ·have HB3 := az (below_then HB2.out HB2.out.size hb3)
  clear hb3
  go_wp2_with fail
  go_ret
  exact ⟨rfl, HB3.out⟩
 have HB3 := az (below_then HB2.out HB2.out.size hb3)
 have HX := az (Cn.Ctx.new (HK.out.below HB3.out) ht HTW.out)
 have HRX : Aside0 (Cn.RCtx w3 tr w2.heap.size x0) := ⟨⟨fun w' hb => hr.below hb, HTW.out, HL70.out⟩⟩
 have h160 : 0 ≤ x1 := HB16.out.1
 have h161 : x1 < 65536 := HB16.out.2
 clear hb3 ht hr
 go_wp2_with fail
 refine (newconn_.calls w3 tb x1).mono ?_
 rintro e w4 ⟨p, rfl, hc4, hb4⟩
 have HC4 := az hc4.bound
 have HB4 := az hb4
 clear hc4 hb4
 go_wp2_with fail
 clear h160 h161
 refine (rnewconn_.calls w4 tr x1).mono ?_
 rintro e w5 ⟨q, rfl, hd5, hb5⟩
 have HBO5 : Aside0 (Cn.BoE w5 w3.heap.size p tb q tr (Cn.new x1) (Cn.new x1)) := ⟨by
  have h1 := HB4.out.size
  have h2 := hb5.size
  refine ⟨w5.heap.size, _, _, _, _, HC4.out.below hb5, hd5.bound, fun k hk => hk.1, fun k hk => Nat.le_trans h1 hk.1, ?_, Nat.le_refl _, ?_, ?_⟩
  ·intro k hk
   rcases hk with (hk | hk) | (hk | hk)
   ·have := hk.2; omega
   ·exact hk.1.elim
   ·exact hk.2
   ·exact hk.1.elim
  ·intro k hk hh
   have := hk.2
   exact hh.elim (fun hh => by have := hh.1; omega) (fun hh => hh.1.elim)
  ·intro k hk hh
   have := hk.1
   exact hh.elim (fun hh => by have := hh.2; omega) (fun hh => hh.1.elim)⟩
 have HB5 := az (below_then HB4.out HB4.out.size hb5)
 have HO5 : Aside0 (Cn.Ok (Cn.new x1)) := ⟨Cn.new_ok x1 ⟨HB16.out.1, by have := HB16.out.2; omega⟩⟩
 have HS5 : Aside0 ((Cn.new x1).send.length ≤ 8000 + 6000000000 * 0) := ⟨Cn.hello_len⟩
 clear hd5 hb5 HC4 HB4
 go_wp2_with fail
 go_loopw [12] (fun ix wr => ∃ (i : Nat) (c : Cn.St), ix = .int .i64 i ∧ i ≤ r ∧ Aside0 (Cn.BoE wr w3.heap.size p tb q tr c c) ∧ Aside0 (Cn.Ok c) ∧ Aside0 (c.send.length ≤ 8000 + 6000000000 * i) ∧ Aside0 (Below w3.heap.size w3 wr)) (fun ix _ => r - (intOf ix).toNat)
 case atStart => exact ⟨0, _, rfl, Nat.zero_le _, HBO5, HO5, HS5, HB5⟩
 case round =>
  clear HBO5 HO5 HS5 HB5
  obtain ⟨i, c, rfl, hi, HBO, HO, HS, HB⟩ := hrel
  have HR60 : Aside0 (r ≤ 60) := ⟨HLI.out.2.1⟩
  have hi60 : (i : Int) ≤ 60 := by have := HR60.out; omega
  by_cases hlt : i < r
  ·have hltI : (i : Int) < r := by omega
   have hix : i < x2.length := by rw [HR.out]; exact hlt
   have HBW := az (below_then HB3.out HB3.out.size HB.out)
   obtain ⟨ad, Ab, cb, hA2, hrun0, _, hlb, hCb⟩ := Cn.co_get HC2.out i hix rfl
   have hrun := hrun0 wr HBW.out
   obtain ⟨⟨kd, bs, k, a⟩, HOP⟩ : ∃ o, Aside0 (x2[i] = o) := ⟨_, ⟨rfl⟩⟩
   have HIN := az (HI2.out x2[i] (List.getElem_mem hix))
   rw [HOP.out] at hrun hlb hCb HIN
   obtain ⟨nb, HNB⟩ : ∃ n, Aside0 (bs.length = n) := ⟨_, ⟨rfl⟩⟩
   have HN3 : Aside0 (nb ≤ 3000) := ⟨by
    have : (x2.getD i Cn.cz).2.1.length ≤ 3000 := HLI.out.2.2 i hlt
    rw [List.getD_eq_getElem?_getD, List.getElem?_eq_getElem hix, HOP.out] at this
    rw [← HNB.out]; exact this⟩
   have hrun' : (Instr.loadAt 38 (.pointer (some (ad.add (i * 4))))).run Tryz.prog wr = .ok (.agg #[.int .u8 kd, .slice Ab nb cb, .int .i64 k, .int .u32 a]) wr := by rw [← HNB.out]; exact hrun
   have HCB := az (show Kd.C (Kd.int .u8) w3 Ab bs.length bs from Kd.C_below hCb HB3.out)
   have HLB : Aside0 (nb ≤ cb) := ⟨by rw [← HNB.out]; exact hlb⟩
   subst hA2
   clear hrun hrun0 hlb hCb
   go_wp2_with (refine Wk.load rfl 38 (.tmp 48) rfl _ (.pointer (some (ad.add (i * 4)))) rfl hrun' ?_)
   clear hrun'
   have HBYT : Aside0 (Sh.Bytes bs) := ⟨Ps.bytes_of HIN.out.2.1.2⟩
   refine (does_.calls HBO.out HX.out HRX.out HB.out HO.out (by have := HS.out; have := HR60.out; omega) (Cn.wf_u8 HIN.out.1) (Wi.of_wf32' HIN.out.2.2.2) HCB.out HNB.out HLB.out HBYT.out HN3.out).mono ?_
   rintro e w6 ⟨rfl, hbo6, hb6⟩
   have HOK := az (Cn.doOp_ok x0 c (kd, bs, k, a) HO.out HBYT.out (by show bs.length ≤ 3000; rw [HNB.out]; exact HN3.out))
   obtain ⟨S, HSE⟩ : ∃ S, Aside0 (Cn.doOp x0 c (kd, bs, k, a) = S) := ⟨_, ⟨rfl⟩⟩
   rw [HSE.out] at hbo6 HOK
   obtain ⟨N, oc, xc, od, xd, hbo⟩ := hbo6
   have HC7 := az hbo.l
   have HD7 := az hbo.r
   have HBO6 := az hbo
   have HB7 := az (Below.refl w6.heap.size w6)
   have HB6 := az hb6
   have HFW := az hbo.l.le16
   have HRQ : Aside0 (∀ q ∈ S.rs, q.2.2.2.2.2.length < 140737488355328) := ⟨fun q hq => by have := HOK.out.1.rs_ q hq; omega⟩
   clear hbo hb6 HBO
   go_wp2_with fail
   refine (state_.calls HC7.out).mono ?_
   rintro e w8 ⟨rfl, hb8⟩
   have HC8 := az (HC7.out.below hb8)
   have HD8 := az (HD7.out.below hb8)
   have HB8 := az (below_then HB7.out HB7.out.size hb8)
   clear hb8
   go_wp2_with fail
   refine (rstate_.calls HD8.out).mono ?_
   rintro e w9 ⟨rfl, hb9⟩
   have HC9 := az (HC8.out.below hb9)
   have HD9 := az (HD8.out.below hb9)
   have HB9 := az (below_then HB8.out HB8.out.size hb9)
   have hss : (S.st != S.st) = false := by simp
   clear hb9
   go_wp2_with fail
   clear hss
   refine (export_.calls HC9.out).mono ?_
   rintro e w10 ⟨rfl, hb10⟩
   have HC10 := az (HC9.out.below hb10)
   have HD10 := az (HD9.out.below hb10)
   have HB10 := az (below_then HB9.out HB9.out.size hb10)
   clear hb10
   go_wp2_with fail
   refine (rexport_.calls HD10.out).mono ?_
   rintro e w11 ⟨rfl, hb11⟩
   have HC11 := az (HC10.out.below hb11)
   have HD11 := az (HD10.out.below hb11)
   have HB11 := az (below_then HB10.out HB10.out.size hb11)
   obtain ⟨x, HEX⟩ : ∃ x, Aside0 (S.ex = x) := ⟨_, ⟨rfl⟩⟩
   rw [HEX.out]
   obtain ⟨xt, xs, xr⟩ := x
   simp only [Cn.exc]
   clear hb11
   go_wp2_with fail
   refine (waits_.calls HC11.out HRQ.out).mono ?_
   rintro e w12 ⟨A12, n12, rfl, hR12, hb12⟩
   have HR12 := az (Kd.R_reads' hR12)
   have HD12 := az (HD11.out.below hb12)
   have HB12 := az (below_then HB11.out HB11.out.size hb12)
   clear hb12 hR12
   go_wp2_with fail
   refine (rwaits_.calls HD12.out HRQ.out).mono ?_
   rintro e w13 ⟨A13, n13, rfl, hR13, hb13⟩
   have HR13 := az (Kd.R_reads' hR13)
   have HR12B := az (Kd.C_below HR12.out.2.2 hb13)
   have HB13 := az (below_then HB12.out HB12.out.size hb13)
   clear hb13 hR13
   go_wp2_with fail
   refine (Cn.sameall_ (rs := S.rs) (by have := HFW.out; omega) HR12B.out rfl HR12.out.2.1 HR13.out.2.2 rfl HR13.out.2.1).mono ?_
   rintro e w14 ⟨rfl, hb14⟩
   have HB14 := az (below_then HB13.out HB13.out.size hb14)
   have HBE : Aside0 (Cn.BoE w14 w3.heap.size p tb q tr S S) := ⟨⟨_, _, _, _, _, HBO6.out.below HB14.out⟩⟩
   have HBN := az (below_then HB6.out HB6.out.size HB14.out)
   have HSN : Aside0 (S.send.length ≤ 8000 + 6000000000 * (i + 1)) := ⟨Nat.le_trans HOK.out.2 (by rw [Nat.mul_succ, ← Nat.add_assoc]; exact Nat.add_le_add_right HS.out _)⟩
   clear hb14
   go_wp2_with fail
   exact ⟨⟨i + 1, S, by simp, by omega, HBE, ⟨HOK.out.1⟩, HSN, HBN⟩, by simp [intOf]; omega⟩
  ·obtain rfl : r = i := by omega
   obtain ⟨N, oc, xc, od, xd, hbo⟩ := HBO.out
   have HBO6 := az hbo
   clear hbo HBO
   go_wp2_with fail
   refine (out_.calls HBO6.out.left).mono ?_
   rintro e w2 ⟨A2, n2, rfl, hr2, hc2, hf2⟩
   have HBO2 := az (HBO6.out.goL HB.out.size hc2 hf2)
   have HB2' := az (hf2.below HB.out HB.out.size (HBO6.out.okL HB.out.size))
   have HD2 := az (Kd.R_bound hr2)
   have HNG3 : Aside0 (∀ j, (Cn.oL wr oc j ∧ 0 ≤ j ∧ j < w2.heap.size ∧ ∃ q', q' ∈ 5 :: (Kd.int .u8).E ∧ ∃ cells, w2.heap[j]? = some (.cells cells q' (0, 0))) → ¬ Cn.oL w2 od j) := ⟨fun j hj hh => hh.elim (fun hh => HBO2.out.a2 j hh (.inl ⟨hj.1, hj.2.2.1⟩)) (fun hh => by have := hj.2.2.1; omega)⟩
   clear hr2 hc2 hf2
   go_wp2_with fail
   refine (rout_.calls HBO2.out.right).mono ?_
   rintro e w3' ⟨A3, n3, rfl, hr3, hc3, hf3⟩
   have HD3 := az (Kd.R_reads' (Cn.R_frame HD2.out hf3 HNG3.out))
   have HE3 := az (Kd.R_reads' hr3)
   have HB4 := az (hf3.below HB2'.out HB2'.out.size (HBO2.out.okR HB2'.out.size))
   clear hr3 hc3 hf3
   go_wp2_with fail
   refine (Cn.sameb_ (l := c.send) HD3.out.2.2 rfl HD3.out.2.1 HE3.out.2.2 rfl HE3.out.2.1).mono ?_
   rintro e w5 ⟨rfl, hb5⟩
   have HB17 := az (below_then HB3.out HB3.out.size (below_then HB4.out HB4.out.size hb5))
   clear hb5
   go_wp2_with fail
   go_ret
   exact ⟨rfl, HB17.out⟩
end Go.Proofs.YtgljicdpcapgnaaGreatDoor
