/- What the law's proof stands on, part 7: ConnL7 (laid together by wip/pack.py). -/
import Derived.Test.YtgljicdpcapgnaaGreatDoorXBP6
set_option linter.unusedVariables false
set_option linter.unusedSimpArgs false
set_option maxRecDepth 100000
set_option maxHeartbeats 8000000
namespace Go.Proofs.YtgljicdpcapgnaaGreatDoor
open Go.RowKit Go.Proofs.YtgljicdpcapgnaaGreatDoor.PBase Go.Proofs.YtgljicdpcapgnaaGreatDoorW.PrintWords Go.Proofs.YtgljicdpcapgnaaGreatDoorW.PrintLast Go.Proofs.YtgljicdpcapgnaaGreatDoorW.PrintMore
namespace Cn
def Rg (c : St) : Prop := (1 ≤ c.st ∧ c.st ≤ 4) ∧ Few c
theorem Rg.later {c : St} (h : Rg c) (h1 : c.st ≠ 1) : Later c.st := by
  have h2 := h.1
  unfold Later
  omega
theorem later_rg {c : St} (h : Later c.st) (hf : Few c) : Rg c := ⟨by unfold Later at h; omega, hf⟩
theorem step_rg (l : List Ps.Tn) (c : St) (h : Rg c) : Rg (step l c).2.2 := by
  have hf := few_step l c h.2
  by_cases h1 : c.st = 1
  · refine ⟨?_, hf⟩
    unfold step
    rw [if_pos h1]
    show 1 ≤ (if (Gr.fl c.kept).2.2 = 0 then { c with sh := (Gr.fl c.kept).1, st := 2 } else c).st ∧ (if (Gr.fl c.kept).2.2 = 0 then { c with sh := (Gr.fl c.kept).1, st := 2 } else c).st ≤ 4
    split
    · exact ⟨show (1 : Int) ≤ 2 by decide, show (2 : Int) ≤ 4 by decide⟩
    · exact h.1
  · exact later_rg (step_st l c (h.later h1)) hf
theorem close_rg (c : St) : Rg (close c) := ⟨⟨show (1 : Int) ≤ 4 by decide, show (4 : Int) ≤ 4 by decide⟩, few_close c⟩
theorem rd_rg (l : List Ps.Tn) : ∀ (F : Nat) (c : St), Rg c → Rg (rd l F c)
  | 0, c, h => h
  | F + 1, c, h => by
    rw [rd]
    split
    · exact step_rg l c h
    · split
      · split
        · exact step_rg l c h
        · exact rd_rg l F _ (step_rg l c h)
      · exact close_rg _
theorem new_rg (b : Int) : Rg (new b) := ⟨⟨show (1 : Int) ≤ 1 by decide, show (1 : Int) ≤ 4 by decide⟩, few_new b⟩
theorem few_erase (c : St) (k : Nat) (h : Few c) : Few { c with rs := c.rs.eraseIdx k } := ⟨Nat.le_trans (List.length_eraseIdx_le _ _) h.1, fun h3 => by
  show c.rs.eraseIdx k = []
  rw [h.2 h3]
  rfl⟩
theorem take_rg (l : List Ps.Tn) (c : St) (k : Int) (h : Rg c) : Rg (take l c k) := by
  unfold take
  split
  · exact rd_rg l _ _ h
  · exact rd_rg l _ _ ⟨h.1, few_erase c _ h.2⟩
theorem take_closed (l : List Ps.Tn) (c : St) (k : Int) (h : c.st = 4) : (take l c k).st = 4 := by
  unfold take
  split
  · rw [read_closed l c h]; exact h
  · exact (congrArg St.st (read_closed l { c with rs := c.rs.eraseIdx k.toNat } h)).trans h
theorem answered_rg (c : St) (r : Rq) (a : Int) (d : List Int) (h : Rg c) : Rg (answered c r a d) ∧ (answered c r a d).st = c.st := by
  unfold answered
  split
  · exact ⟨h, rfl⟩
  · exact ⟨⟨h.1, h.2⟩, rfl⟩
theorem doOp_rg (l : List Ps.Tn) (c : St) (o : Co) (h : Rg c) : Rg (doOp l c o) ∧ (c.st = 4 → (doOp l c o).st = 4) := by
  unfold doOp
  split
  · have ht := take_rg l c o.2.2.1 h
    have h4 := take_closed l c o.2.2.1
    split
    · split
      · rename_i r _
        obtain ⟨a1, a2⟩ := answered_rg (take l c o.2.2.1) r o.2.2.2 o.2.1 ht
        exact ⟨a1, fun h => a2.trans (h4 h)⟩
      · exact ⟨ht, h4⟩
    · exact ⟨ht, h4⟩
  · split
    · exact ⟨⟨h.1, h.2⟩, fun h => h⟩
    · split
      · split
        · exact ⟨close_rg c, fun _ => rfl⟩
        · exact ⟨h, fun h => h⟩
      · unfold feed
        split
        · exact ⟨h, fun h => h⟩
        · rename_i h4
          refine ⟨?_, fun h => absurd h h4⟩
          split
          · exact close_rg c
          · exact rd_rg l _ _ ⟨h.1, h.2⟩
theorem feed_closed (l : List Ps.Tn) (c : St) (b : List Int) (h : c.st = 4) : feed l c b = c := by unfold feed; rw [if_pos h]
end Cn
theorem connBounds_.calls (x0 : List Ps.Tn) (v0 : Value) (x2 : List Cn.Co) (v2 : Value) (W : World) (hk : Sh.Ks W) (hK0 : (Kd.slice 74 Ps.kTn).K W x0 [v0]) (hw0 : x0.length ≤ maxLen ∧ ∀ x ∈ x0, Ps.TnIn x) (hK2 : (Kd.slice 38 Cn.kCo).K W x2 [v2]) (hw2 : x2.length ≤ maxLen ∧ ∀ x ∈ x2, Cn.CoIn x) :
  Calls Tryz.prog 3 #[v0, v2] W fun e w' => e = .returned (.bool true) ∧ Below W.heap.size W w' := by
 obtain ⟨A0, c0, he0, hlc, hC⟩ := hK0
 obtain rfl : v0 = .slice A0 x0.length c0 := by simpa using he0
 obtain ⟨A2, c2, he2, hlc2, hC2⟩ := hK2
 obtain rfl : v2 = .slice A2 x2.length c2 := by simpa using he2
 have HK := az hk
 have HC := az hC
 have HC2 := az hC2
 have HI := az hw0.2
 have HI2 := az hw2.2
 obtain ⟨n, HN⟩ : ∃ n, Aside0 (x0.length = n) := ⟨_, ⟨rfl⟩⟩
 obtain ⟨r, HR⟩ : ∃ n, Aside0 (x2.length = n) := ⟨_, ⟨rfl⟩⟩
 rw [HN.out] at hlc ⊢
 rw [HR.out] at hlc2 ⊢
 have HLC := az hlc
 have HHO := az (Cn.heavy_ops hC2 HR.out)
 clear hw0 hC he0 hk hlc hC2 he2 hlc2 hw2
 go_enter Tryz.func3, Tryz.ntmps3
 go_wp2_with fail
 refine (heavyc_.calls HC.out HN.out HLC.out HHO.out).mono ?_
 rintro e w1 ⟨b, rfl, hb, hb1⟩
 have HB1 := az hb1
 have HLT := az hb
 clear hb hb1 HHO
 cases b with
 | true =>
  go_wp2_with fail
  refine (knownc_.calls _ (HK.out.below HB1.out)).mono ?_
  rintro e w2 ⟨rfl, hb2⟩
  have HB2 := az (below_then HB1.out HB1.out.size hb2)
  clear hb2
  go_wp2_with fail
  go_ret
  exact ⟨rfl, HB2.out⟩
 | false =>
 have HLI := az (HLT.out rfl)
 have HTW := az (Ps.few_wf HLI.out.1 HI.out)
 have HL70 : Aside0 (x0.length ≤ 70) := ⟨(of_decide_eq_true (show decide (x0.length ≤ 70 ∧ ∀ x ∈ x0, x.f1.length ≤ 200 ∧ x.f4.length ≤ 50) = true from HLI.out.1)).1⟩
 clear HLT HI
 go_wp2_with fail
 refine (knownc_.calls _ (HK.out.below HB1.out)).mono ?_
 rintro e w2 ⟨rfl, hb2⟩
 have HB2 := az (below_then HB1.out HB1.out.size hb2)
 clear hb2 HB1
 go_wp2_with fail
 refine (tables2_.calls (Kd.C_below HC.out HB2.out) HN.out HTW.out).mono ?_
 rintro e w3 ⟨hb3, ⟨tb, tr, rfl, ht, hr⟩ | rfl⟩
 rotate_left
 ·have HB3 := az (below_then HB2.out HB2.out.size hb3)
  clear hb3
  go_wp2_with fail
  go_ret
  exact ⟨rfl, HB3.out⟩
 have HB3 := az (below_then HB2.out HB2.out.size hb3)
 have HX := az (Cn.Ctx.new (HK.out.below HB3.out) ht HTW.out)
 have HRX : Aside0 (Cn.RCtx w3 tr w2.heap.size x0) := ⟨⟨fun w' hb => hr.below hb, HTW.out, HL70.out⟩⟩
 clear hb3 ht hr
 go_wp2_with fail
 refine (newconn_.calls w3 tb 64).mono ?_
 rintro e w4 ⟨p, rfl, hc4, hb4⟩
 have HC4 := az hc4.bound
 have HB4 := az hb4
 clear hc4 hb4
 go_wp2_with fail
 refine (rnewconn_.calls w4 tr 64).mono ?_
 rintro e w5 ⟨q, rfl, hd5, hb5⟩
 have HBO5 : Aside0 (Cn.BoE w5 w3.heap.size p tb q tr (Cn.new 64) (Cn.new 64)) := ⟨by
  have h1 := HB4.out.size
  have h2 := hb5.size
  refine ⟨w5.heap.size, _, _, _, _, HC4.out.below hb5, hd5.bound, fun k hk => hk.1, fun k hk => Nat.le_trans h1 hk.1, ?_, Nat.le_refl _, ?_, ?_⟩
  ·intro k hk
   rcases hk with (hk | hk) | (hk | hk)
   ·have := hk.2; omega
   ·exact hk.1.elim
   ·exact hk.2
   ·exact hk.1.elim
  ·intro k hk hh
   have := hk.2
   exact hh.elim (fun hh => by have := hh.1; omega) (fun hh => hh.1.elim)
  ·intro k hk hh
   have := hk.1
   exact hh.elim (fun hh => by have := hh.2; omega) (fun hh => hh.1.elim)⟩
 have HB5 := az (below_then HB4.out HB4.out.size hb5)
 have HO5 : Aside0 (Cn.Ok (Cn.new 64)) := ⟨Cn.new_ok 64 (by decide)⟩
 have HS5 : Aside0 ((Cn.new 64).send.length ≤ 8000 + 6000000000 * 0) := ⟨Cn.hello_len⟩
 clear hd5 hb5 HC4 HB4
 go_wp2_with fail
 have HRG5 := az (Cn.new_rg 64)
 have HCL5 : Aside0 (decide ((Cn.new 64).st = 4) = false) := ⟨decide_eq_false (show ¬ (1 : Int) = 4 by decide)⟩
 go_loopw [10, 11] (fun cx ix wr => ∃ (i : Nat) (c : Cn.St) (cl : Bool), cx = .bool cl ∧ ix = .int .i64 i ∧ i ≤ r ∧ Aside0 (decide (c.st = 4) = cl) ∧ Aside0 (Cn.Rg c) ∧ Aside0 (Cn.BoE wr w3.heap.size p tb q tr c c) ∧ Aside0 (Cn.Ok c) ∧ Aside0 (c.send.length ≤ 8000 + 6000000000 * i) ∧ Aside0 (Below w3.heap.size w3 wr)) (fun _ ix _ => r - (intOf ix).toNat)
 case atStart => exact ⟨0, _, _, rfl, rfl, Nat.zero_le _, HCL5, HRG5, HBO5, HO5, HS5, HB5⟩
 case round =>
  clear HBO5 HO5 HS5 HB5 HCL5 HRG5
  obtain ⟨i, c, cl, rfl, rfl, hi, HCL, HRG, HBO, HO, HS, HB⟩ := hrel
  have HR60 : Aside0 (r ≤ 60) := ⟨HLI.out.2.1⟩
  have hi60 : (i : Int) ≤ 60 := by have := HR60.out; omega
  by_cases hlt : i < r
  ·have hltI : (i : Int) < r := by omega
   have hix : i < x2.length := by rw [HR.out]; exact hlt
   have HBW := az (below_then HB3.out HB3.out.size HB.out)
   obtain ⟨ad, Ab, cb, hA2, hrun0, _, hlb, hCb⟩ := Cn.co_get HC2.out i hix rfl
   have hrun := hrun0 wr HBW.out
   obtain ⟨⟨kd, bs, k, a⟩, HOP⟩ : ∃ o, Aside0 (x2[i] = o) := ⟨_, ⟨rfl⟩⟩
   have HIN := az (HI2.out x2[i] (List.getElem_mem hix))
   rw [HOP.out] at hrun hlb hCb HIN
   obtain ⟨nb, HNB⟩ : ∃ n, Aside0 (bs.length = n) := ⟨_, ⟨rfl⟩⟩
   have HN3 : Aside0 (nb ≤ 3000) := ⟨by
    have : (x2.getD i Cn.cz).2.1.length ≤ 3000 := HLI.out.2.2 i hlt
    rw [List.getD_eq_getElem?_getD, List.getElem?_eq_getElem hix, HOP.out] at this
    rw [← HNB.out]; exact this⟩
   have hrun' : (Instr.loadAt 38 (.pointer (some (ad.add (i * 4))))).run Tryz.prog wr = .ok (.agg #[.int .u8 kd, .slice Ab nb cb, .int .i64 k, .int .u32 a]) wr := by rw [← HNB.out]; exact hrun
   have HCB := az (show Kd.C (Kd.int .u8) w3 Ab bs.length bs from Kd.C_below hCb HB3.out)
   have HLB : Aside0 (nb ≤ cb) := ⟨by rw [← HNB.out]; exact hlb⟩
   subst hA2
   clear hrun hrun0 hlb hCb
   go_wp2_with (refine Wk.load rfl 38 (.tmp 44) rfl _ (.pointer (some (ad.add (i * 4)))) rfl hrun' ?_)
   clear hrun'
   have HBYT : Aside0 (Sh.Bytes bs) := ⟨Ps.bytes_of HIN.out.2.1.2⟩
   refine (does_.calls HBO.out HX.out HRX.out HB.out HO.out (by have := HS.out; have := HR60.out; omega) (Cn.wf_u8 HIN.out.1) (Wi.of_wf32' HIN.out.2.2.2) HCB.out HNB.out HLB.out HBYT.out HN3.out).mono ?_
   rintro e w6 ⟨rfl, hbo6, hb6⟩
   have HOK := az (Cn.doOp_ok x0 c (kd, bs, k, a) HO.out HBYT.out (by show bs.length ≤ 3000; rw [HNB.out]; exact HN3.out))
   obtain ⟨S, HSE⟩ : ∃ S, Aside0 (Cn.doOp x0 c (kd, bs, k, a) = S) := ⟨_, ⟨rfl⟩⟩
   rw [HSE.out] at hbo6 HOK
   have HRS := az (Cn.doOp_rg x0 c (kd, bs, k, a) HRG.out)
   rw [HSE.out] at HRS
   obtain ⟨N, oc, xc, od, xd, hbo⟩ := hbo6
   have HC7 := az hbo.l
   have HBO6 := az hbo
   have HB7 := az (Below.refl w6.heap.size w6)
   have HB6 := az hb6
   have HRQ : Aside0 (∀ q ∈ S.rs, q.2.2.2.2.2.length < 140737488355328) := ⟨fun q hq => by have := HOK.out.1.rs_ q hq; omega⟩
   clear hbo hb6 HBO
   go_wp2_with fail
   refine (waits_.calls HC7.out HRQ.out).mono ?_
   rintro e w8 ⟨A12, n12, rfl, -, hb8⟩
   obtain ⟨nw, HNW⟩ : ∃ n, Aside0 (S.rs.length = n) := ⟨_, ⟨rfl⟩⟩
   rw [HNW.out]
   have HC8 := az (HC7.out.below hb8)
   have HB8 := az (below_then HB7.out HB7.out.size hb8)
   clear hb8
   go_wp2_with fail
   refine (state_.calls HC8.out).mono ?_
   rintro e w9 ⟨rfl, hb9⟩
   have HB14 := az (below_then HB8.out HB8.out.size hb9)
   have HBE : Aside0 (Cn.BoE w9 w3.heap.size p tb q tr S S) := ⟨⟨_, _, _, _, _, HBO6.out.below HB14.out⟩⟩
   have HBN := az (below_then HB6.out HB6.out.size HB14.out)
   have HSN : Aside0 (S.send.length ≤ 8000 + 6000000000 * (i + 1)) := ⟨Nat.le_trans HOK.out.2 (by rw [Nat.mul_succ, ← Nat.add_assoc]; exact Nat.add_le_add_right HS.out _)⟩
   obtain ⟨st, HST⟩ : ∃ st, Aside0 (S.st = st) := ⟨_, ⟨rfl⟩⟩
   rw [HST.out]
   have hn16 : (nw : Int) ≤ 16 := by have := HRS.out.1.2.1; rw [HNW.out] at this; omega
   have hs1 : 1 ≤ st := by rw [← HST.out]; exact HRS.out.1.1.1
   have hs4 : st ≤ 4 := by rw [← HST.out]; exact HRS.out.1.1.2
   have hn3 : st ≠ 3 → nw = 0 := fun h => by rw [← HNW.out, HRS.out.1.2.2 (by rw [HST.out]; exact h)]; rfl
   have hcl : cl = true → st = 4 := fun h => by rw [← HST.out]; exact HRS.out.2 (of_decide_eq_true (HCL.out.trans h))
   clear hb9 HC7 HC8 HB7 HB8 HBO6
   by_cases h4 : st = 4
   ·subst h4
    obtain rfl : nw = 0 := hn3 (by decide)
    clear hn3 hcl
    cases cl with
    | true =>
     go_wp2_with fail
     exact ⟨⟨i + 1, S, true, rfl, by simp, by omega, ⟨by rw [HST.out]; exact rfl⟩, ⟨HRS.out.1⟩, HBE, ⟨HOK.out.1⟩, HSN, HBN⟩, by simp [intOf]; omega⟩
    | false =>
     go_wp2_with fail
     exact ⟨⟨i + 1, S, true, rfl, by simp, by omega, ⟨by rw [HST.out]; exact rfl⟩, ⟨HRS.out.1⟩, HBE, ⟨HOK.out.1⟩, HSN, HBN⟩, by simp [intOf]; omega⟩
   ·have hcf : cl = false := by cases cl with | true => exact absurd (hcl rfl) h4 | false => rfl
    subst hcf
    have e4 : (st == 4) = false := by simpa using h4
    have n4 : (st != 4) = true := by simpa using h4
    have H4 := az h4
    clear hcl
    by_cases h3 : st = 3
    ·subst h3
     clear hn3
     go_wp2_with fail
     exact ⟨⟨i + 1, S, false, rfl, by simp, by omega, ⟨by rw [HST.out]; exact rfl⟩, ⟨HRS.out.1⟩, HBE, ⟨HOK.out.1⟩, HSN, HBN⟩, by simp [intOf]; omega⟩
    ·obtain rfl : nw = 0 := hn3 h3
     have e3 : (st == 3) = false := by simpa using h3
     have n3 : (st != 3) = true := by simpa using h3
     clear hn3 h3 h4
     go_wp2_with fail
     exact ⟨⟨i + 1, S, false, rfl, by simp, by omega, ⟨by rw [HST.out]; exact (decide_eq_false H4.out)⟩, ⟨HRS.out.1⟩, HBE, ⟨HOK.out.1⟩, HSN, HBN⟩, by simp [intOf]; omega⟩
  ·obtain rfl : r = i := by omega
   obtain ⟨N, oc, xc, od, xd, hbo⟩ := HBO.out
   have HBO6 := az hbo
   clear hbo HBO
   cases cl with
   | true =>
    have HC2 := az HBO6.out.left
    have HF2 : Aside0 (Cn.Fr wr wr (Cn.oL wr oc)) := ⟨Cn.Fr.refl _ _⟩
    have h4 : c.st = 4 := of_decide_eq_true HCL.out
    have H4 := az h4
    clear h4
    go_wp2_with fail
    refine (out_.calls HC2.out).mono ?_
    rintro e w3' ⟨A3, n3, rfl, -, hc3, hf3⟩
    have HC3 := az hc3
    have HF3 := az (HF2.out.trans hf3)
    clear hc3 hf3
    have HB4 : Aside0 (Below w3'.heap.size w3' (w3'.alloc (.cells #[.int .u8 0, .int .u8 0, .int .u8 0, .int .u8 3] 5))) := ⟨below_alloc (Below.refl _ _) _⟩
    have HR4 : Aside0 (Kd.C (Kd.int .u8) (w3'.alloc (.cells #[.int .u8 0, .int .u8 0, .int .u8 0, .int .u8 3] 5)) (some ⟨w3'.heap.size, 0, none⟩) ([0, 0, 0, 3] : List Int).length [0, 0, 0, 3]) := ⟨Lit.reads_new w3' _ _ _ .u8 [0, 0, 0, 3] rfl (by simp)⟩
    have HF4 := az (HF3.out.trans (Cn.Fr.of_below HB4.out _))
    have HC4 := az (HC3.out.below HB4.out)
    go_wp2_with fail
    refine (feedc_.calls HX.out HC4.out (fun j hj => .inr (Nat.le_trans HF4.out.size hj)) ⟨HO.out.by_, HO.out.len, HO.out.rs_, HO.out.blk_⟩ (HF4.out.below HB.out HB.out.size (HBO6.out.okL HB.out.size)) (HBO6.out.okL HB.out.size) (Nat.zero_le _) HR4.out rfl (by decide) (Cn.bytes_lit _ (by decide))).mono ?_
    rintro e w5 ⟨rfl, hc5, hf5⟩
    rw [Cn.feed_closed x0 (Cn.out c) _ (show (Cn.out c).st = 4 from H4.out)] at hc5
    have HC5 := az hc5
    have HF5 := az (HF4.out.trans hf5)
    clear hc5 hf5 HB4 HR4 HC4 HC3
    go_wp2_with fail
    refine (out_.calls HC5.out).mono ?_
    rintro e w6 ⟨A6, n6, rfl, -, hc6, hf6⟩
    rw [show (Cn.out c).send.length = 0 from rfl]
    have HC6 := az hc6
    have HF6 := az (HF5.out.trans hf6)
    clear hc6 hf6
    go_wp2_with fail
    refine (state_.calls HC6.out).mono ?_
    rintro e w7 ⟨rfl, hb7⟩
    rw [show (Cn.out (Cn.out c)).st = 4 from H4.out]
    have HB17 := az (below_then HB3.out HB3.out.size ((HF6.out.trans (Cn.Fr.of_below hb7 _)).below HB.out HB.out.size (HBO6.out.okL HB.out.size)))
    clear hb7
    go_wp2_with fail
    go_ret
    exact ⟨rfl, HB17.out⟩
   | false =>
    go_wp2_with fail
    refine (close_.calls HBO6.out.left).mono ?_
    rintro e w2 ⟨rfl, hc2, hf2⟩
    have HC2 := az hc2
    have HF2 := az hf2
    clear hc2 hf2
    go_wp2_with fail
    refine (out_.calls HC2.out).mono ?_
    rintro e w3' ⟨A3, n3, rfl, -, hc3, hf3⟩
    have HC3 := az hc3
    have HF3 := az (HF2.out.trans hf3)
    clear hc3 hf3
    have HB4 : Aside0 (Below w3'.heap.size w3' (w3'.alloc (.cells #[.int .u8 0, .int .u8 0, .int .u8 0, .int .u8 3] 5))) := ⟨below_alloc (Below.refl _ _) _⟩
    have HR4 : Aside0 (Kd.C (Kd.int .u8) (w3'.alloc (.cells #[.int .u8 0, .int .u8 0, .int .u8 0, .int .u8 3] 5)) (some ⟨w3'.heap.size, 0, none⟩) ([0, 0, 0, 3] : List Int).length [0, 0, 0, 3]) := ⟨Lit.reads_new w3' _ _ _ .u8 [0, 0, 0, 3] rfl (by simp)⟩
    have HF4 := az (HF3.out.trans (Cn.Fr.of_below HB4.out _))
    have HC4 := az (HC3.out.below HB4.out)
    go_wp2_with fail
    refine (feedc_.calls HX.out HC4.out (fun j hj => .inr (Nat.le_trans HF4.out.size hj)) ⟨(fun x hx => by cases hx), Nat.zero_le _, (fun x hx => by cases hx), HO.out.blk_⟩ (HF4.out.below HB.out HB.out.size (HBO6.out.okL HB.out.size)) (HBO6.out.okL HB.out.size) (Nat.zero_le _) HR4.out rfl (by decide) (Cn.bytes_lit _ (by decide))).mono ?_
    rintro e w5 ⟨rfl, hc5, hf5⟩
    rw [Cn.feed_closed x0 (Cn.out (Cn.close c)) _ (show (Cn.out (Cn.close c)).st = 4 from rfl)] at hc5
    have HC5 := az hc5
    have HF5 := az (HF4.out.trans hf5)
    clear hc5 hf5 HB4 HR4 HC4 HC3
    go_wp2_with fail
    refine (out_.calls HC5.out).mono ?_
    rintro e w6 ⟨A6, n6, rfl, -, hc6, hf6⟩
    rw [show (Cn.out (Cn.close c)).send.length = 0 from rfl]
    have HC6 := az hc6
    have HF6 := az (HF5.out.trans hf6)
    clear hc6 hf6
    go_wp2_with fail
    refine (state_.calls HC6.out).mono ?_
    rintro e w7 ⟨rfl, hb7⟩
    rw [show (Cn.out (Cn.out (Cn.close c))).st = 4 from rfl]
    have HB17 := az (below_then HB3.out HB3.out.size ((HF6.out.trans (Cn.Fr.of_below hb7 _)).below HB.out HB.out.size (HBO6.out.okL HB.out.size)))
    clear hb7
    go_wp2_with fail
    go_ret
    exact ⟨rfl, HB17.out⟩
end Go.Proofs.YtgljicdpcapgnaaGreatDoor
